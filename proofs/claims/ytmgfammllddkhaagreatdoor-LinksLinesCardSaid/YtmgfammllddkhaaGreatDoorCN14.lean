/- Functions of the program as Lean functions. Written by fxgen.py. | What own and templates find in inert trees; links.Own where few links are found. | LinksHidden's second text; what the tests on strings say of bytes. | What is found in two lines is what is found in each. | links.Redirect at a text whose first line ends with brackets. | Stable sorting by insertion, and merging. No program is named. | The library's stable sorting at memberships: exchanging and turning stretches. | The library's stable sorting at memberships: insertion. | The library's stable sorting at memberships: merging in place. | The library's stable sorting at memberships: merging in place, whatever the lengths. | slices.SortStableFunc at memberships is the stable sorting. | slices.Compact and CompactFunc: runs of equals become one. | Functions of the program as Lean functions. Written by fxgen.py. | strings.IndexRune at a rune that is no ASCII, in a string of ASCII bytes: -1. | strings.ContainsAny at strings of any bytes and ASCII chars. | strings.Count at whatever is sought. -/
import Derived.Test.YtmgfammllddkhaaGreatDoorCN11
import Derived.Test.YtmgfammllddkhaaGreatDoorCN12
import Derived.Test.YtmgfammllddkhaaGreatDoorCN13
import Derived.Test.YtmgfammllddkhaaGreatDoorCN07
import Derived.Test.YtmgfammllddkhaaGreatDoorCN09
import Derived.Test.YtmgfammllddkhaaGreatDoorCN03
import Derived.Test.YtmgfammllddkhaaGreatDoorCN01
import Derived.Test.YtmgfammllddkhaaGreatDoorCN04
import Derived.Lib.MapLaws
import Derived.WalkMore
import Derived.Deep.QuietTactic
import Derived.BigQuiet
import Derived.Test.YtmgfammllddkhaaGreatDoorCN06
set_option linter.unusedVariables false
set_option maxHeartbeats 4000000
set_option maxRecDepth 100000
namespace Go.Proofs.YtmgfammllddkhaaGreatDoor
open VL
def Zc2 (p0:ByteArray):Option ((List Link)×(List Memb)×Int):=
 (ZcG p0).bind fun r1=>
 if (!decide (r1.2=0)) then
  (some ([],[],r1.2):Option ((List Link)×(List Memb)×Int))
 else
 (ZaI 64 (⟨([]:List Link),([]:List Memb)⟩:Finder) r1.1).bind fun r2=>
 (Zp 64 r2 r1.1).bind fun r3=>
 (ZaE p0).bind fun r4=>
 letk (fun (x6:List Link)=>
  (Zbr x6).bind fun r7=>
  (ZV r3.members).bind fun r8=>
  (Zaf r8).bind fun r9=>
  (Zba r7).bind fun r10=>
  (some (r10,r9,0):Option ((List Link)×(List Memb)×Int))) fun k1=>
 if r4.2 then
  (Zjs 32 r3.links [(⟨4,r4.1⟩:Link)]).bind fun l11=>
  k1 l11
 else
 k1 r3.links
theorem ZeO (p0:ByteArray) (r:(List Link)×(List Memb)×Int) (h:Zc2 p0=some r):Zn Tryz.prog 11 [.str p0] (.tup [.sl (List.map Link.cs r.1),.sl (List.map Memb.cs r.2.1),.int .i64 r.2.2]):=by
 refine cF (fun r=>.tup [.sl (List.map Link.cs r.1),.sl (List.map Memb.cs r.2.1),.int .i64 r.2.2]) h mix Tryz.func11 fun r h=>?_
 unfold Zc2 at h
 refine Zt ?_
 refine rg ?_
 refine rg ?_
 refine aC h (Zkg _) fun r1 h=>?_
 refine rg ?_
 refine cS h rfl (fun h=>?_) fun h=>?_
 ·refine rg ?_
  cases h
  exact rQ
 refine rg ?_
 refine Zao (Zb8 20 3000 0 42 3 rfl rfl rfl) (Zt ?_) (List.cons_ne_nil _ _)
 refine Zao (Zb8 20 3001 1 45 3 rfl rfl rfl) (Zt ?_) (List.cons_ne_nil _ _)
 refine rg ?_
 obtain ⟨r2,h2,h⟩:=bnd h
 refine Zgb (ZgJ 64 _ _ _ h2) rfl rfl rfl rfl rfl rfl rfl rfl (Zt ?_)
 refine rg ?_
 obtain ⟨r3,h3,h⟩:=bnd h
 refine Zgb (ZeB 64 _ _ _ h3) rfl rfl rfl rfl rfl rfl rfl rfl (Zt ?_)
 refine rg ?_
 refine aC h (ZhK _) fun r4 h=>?_
 refine rg ?_
 refine jL h (fun x6=>mkS [(7,.ptr 20 (1,20) 0)] [(20,some ((1,20),.box [.row 3000 (1,3000),.row 3001 (1,3001)])),(3000,some ((1,3000),.row 42 3 false (List.map Link.cs x6))),(3001,some ((1,3001),.row 45 3 false (List.map Memb.cs r3.members)))] 2) (fun k1 h=>?_) fun x6 h=>?_
 ·refine cS h rfl (fun h=>?_) fun h=>?_
  ·refine rg ?_
   refine ZcT (M:=([(⟨4,r4.1⟩:Link)]:List Link)) (f:=Link.cs) rfl rfl rfl rfl (Nat.le_of_ble_eq_true rfl) rfl (Zt ?_)
   refine pR Link.cs h fun l11 h=>?_
   exact jn l11 h (sR [(20,4,1),(3000,11,8),(3001,8,2000002)])
  exact jn r3.links h (sR [(20,4,1),(3000,8,1000002),(3001,8,2000002)])
 refine rg ?_
 obtain ⟨r7,h6,h⟩:=bnd h
 refine ZcL (Ze6 _ _ h6) rfl rfl rfl rfl rfl (Zt ?_)
 refine rg ?_
 obtain ⟨r8,h7,h⟩:=bnd h
 refine ZcL (Zcj _ _ h7) rfl rfl rfl rfl rfl (Zt ?_)
 refine rg ?_
 obtain ⟨r9,h8,h⟩:=bnd h
 refine Zqa (ZcI _ _ h8) rfl rfl rfl rfl (Zt ?_)
 refine rg ?_
 obtain ⟨r10,h9,h⟩:=bnd h
 refine Zqa (Zfk _ _ h9) rfl rfl rfl rfl (Zt ?_)
 cases h
 exact rQ
theorem Ziw {α β:Type} {step:β→α→Option β} {c:β}:∀ {l:List α},(∀ x ∈ l,step c x=some c)→Zg5 step l c=some c
 | [],_=>rfl
 | x::l,h=>by
   show (step c x).bind (fun c'=>Zg5 step l c')=_
   rw [h x (by simp)]
   exact Ziw fun y hy=>h y (List.mem_cons_of_mem _ hy)
def ZuE (n:Node):Prop:=n.kind=1∧n.kids = []∧n.args = []
theorem Zrg (m:Nat) (f:Finder):Zp (m+1) f []=some f:=ZpC (by simp) rfl
theorem ZnN {m:Nat} {f:Finder} {n:Node} (hk:n.kind≠4) (h1:n.kids = []) (h2:n.args = []):Zgx (m+1) f n=some f:=by
 unfold Zgx
 split
 ·rfl
 ·unfold Zkx
  rw [if_neg hk,h1,h2]
  show ((some []:Option (List Node)).bind fun l=>(Zp (m+1) f l).bind fun f=>(ZjL []).bind fun l=>if l.length≤4611686018427387900 then Zg5 (ZiG (m+1)) l f else none)=_
  show ((Zp (m+1) f []).bind fun f=>(ZjL []).bind fun l=>if l.length≤4611686018427387900 then Zg5 (ZiG (m+1)) l f else none)=_
  rw [Zrg]
  rfl
theorem Zph {m:Nat} {f:Finder} {l:List Node} (hl:l.length≤4611686018427387900) (h:∀ n ∈ l,ZuE n):Zp (m+2) f l=some f:=
 ZpC hl (Ziw fun n hn=>ZnN (by rw [(h n hn).1];decide) (h n hn).2.1 (h n hn).2.2)
theorem Zmh {s sub:List UInt8} (h:Lib.contains s sub=false) (j:Nat) (hj:j≤s.length):Lib.occAt s sub j=false:=by
 have h1:¬ 0≤Lib.index s sub:=of_decide_eq_false h
 rcases Lib.index_spec s sub with ⟨_,h2⟩ | ⟨i,h2,_⟩
 ·exact h2 j hj
 ·omega
theorem Zsc:∀ {s ch:List UInt8},Lib.containsAny s ch=false→∀ c ∈ s,ch.contains c=false
 | [],ch,_,c,hc=>by cases hc
 | b::l,ch,h,c,hc=>by
   have h1:¬ 0≤Lib.indexAny (b::l) ch:=of_decide_eq_false h
   have hg:=Lib.indexAny_ge ch l
   unfold Lib.indexAny at h1
   cases hb:ch.contains b with
   | true=>rw [if_pos hb] at h1;exact absurd (by decide) h1
   | false=>
     rw [if_neg (by rw [hb];decide)] at h1
     have h2:Lib.indexAny l ch = -1:=by
      by_cases h3:Lib.indexAny l ch = -1
      ·exact h3
      ·rw [if_neg (by simpa using h3)] at h1
       omega
     rcases List.mem_cons.1 hc with rfl | hc
     ·exact hb
     ·refine Zsc (s:=l) ?_ c hc
      unfold Lib.containsAny
      rw [h2]
      rfl
def Zet:List UInt8→Nat
 | []=>0
 | c::l=>if c=124∨(c=93∧l.headD 93=93) then 0 else Zet l+1
theorem Zmo:∀ a:List UInt8,Zet a≤a.length
 | []=>Nat.le_refl _
 | c::l=>by
   have:=Zmo l
   unfold Zet
   split
   ·omega
   ·rw [List.length_cons];omega
theorem Zpi (a c:List UInt8) (h:(a++93::93::c).length≤1000000):ZbG (bs (a++93::93::c))=some (Zet a:Int):=by
 refine Zay ?_
 unfold ZbG
 have z:(bs (a++93::93::c)).size=a.length+c.length+2:=by show (a++93::93::c).length=_;rw [List.length_append,List.length_cons,List.length_cons];omega
 rw [List.length_append,List.length_cons,List.length_cons] at h
 refine Zac (fun i=>∃ n:Nat,i=(n:Int)∧n≤a.length∧Zet a=n+Zet (a.drop n)) (fun i=>a.length - i.toNat) ⟨0,rfl,Nat.zero_le _,by simp⟩ (by omega) ?_
 rintro i rec ⟨n,rfl,hn,he⟩ ih
 refine Zj (fun _=>?_) fun h=>absurd (by omega) h
 by_cases hl:n<a.length
 ·have hd:a.drop n=a[n]::a.drop (n+1):=List.drop_eq_getElem_cons hl
  generalize hx:a[n]=x at hd
  have hc:(a++93::93::c)[n]? = some x:=by rw [List.getElem?_append_left hl,List.getElem?_eq_getElem hl,hx]
  have hc1:(a++93::93::c)[n+1]? = some ((a.drop (n+1)).headD 93):=by
   by_cases h2:n+1<a.length
   ·rw [List.getElem?_append_left h2,List.getElem?_eq_getElem h2,List.drop_eq_getElem_cons h2];rfl
   ·have e:a.drop (n+1) = []:=List.drop_eq_nil_of_le (by omega)
    rw [e,List.getElem?_append_right (by omega),show n+1 - a.length=0 by omega]
    rfl
  rw [hd] at he
  have hu:Zet (x::a.drop (n+1))=if x=124∨(x=93∧(a.drop (n+1)).headD 93=93) then 0 else Zet (a.drop (n+1))+1:=rfl
  rw [hu] at he
  have e124:((x.toNat:Int)=124)→x=124:=fun h=>UInt8.toNat_inj.1 (show x.toNat=124 by omega)
  have e93:∀ {y:UInt8},((y.toNat:Int)=93)→y=93:=fun h=>UInt8.toNat_inj.1 (show _=93 by omega)
  refine Zap (fun q=>((x=124∨(x=93∧(a.drop (n+1)).headD 93=93))→Tot (q true) (fun r=>r=(Zet a:Int)))∧((¬ (x=124∨(x=93∧(a.drop (n+1)).headD 93=93)))→Tot (q false) (fun r=>r=(Zet a:Int)))) ⟨fun hy=>?_,fun hy=>?_⟩ fun k14 hk=>?_
  ·rw [if_pos hy] at he
   exact ZG (fun _=>Zd (by omega)) fun h=>by cases h
  ·rw [if_neg hy] at he
   refine ZG (fun h=>by cases h) fun _=>?_
   rw [ZaH (by omega) (by omega)]
   exact ih _ ⟨n+1,by omega,by omega,by omega⟩ (by omega)
  ·refine Zb (ZfX hc) (Zj (fun h=>hk.1 (.inl (e124 h))) fun h124=>?_)
   refine Zb (ZfX hc) (Zj (fun h=>?_) fun h=>hk.2 fun hh=>?_)
   ·have hw:w64 ((n:Int)+1)=((n+1:Nat):Int):=by rw [ZaH (by omega) (by omega)];omega
    rw [hw]
    refine Zj (fun _=>?_) fun h=>absurd (by omega) h
    refine Zb (ZfX hc1) ?_
    by_cases h2:(a.drop (n+1)).headD 93=93
    ·rw [decide_eq_true (by rw [h2];rfl)]
     exact hk.1 (.inr ⟨e93 h,h2⟩)
    ·rw [decide_eq_false (fun hh=>h2 (e93 hh))]
     exact hk.2 fun hh=>by
      rcases hh with hh | hh
      ·exact h124 (by rw [hh];rfl)
      ·exact h2 hh.2
   ·rcases hh with hh | hh
    ·exact h124 (by rw [hh];rfl)
    ·exact h (by rw [hh.1];rfl)
 ·have hna:n=a.length:=by omega
  subst hna
  rw [List.drop_length] at he
  have hc:(a++93::93::c)[a.length]? = some 93:=by rw [List.getElem?_append_right (Nat.le_refl _)];simp
  have hc1:(a++93::93::c)[a.length+1]? = some 93:=by rw [List.getElem?_append_right (by omega)];simp
  have hw:w64 ((a.length:Int)+1)=((a.length+1:Nat):Int):=by rw [ZaH (by omega) (by omega)];omega
  refine ZaL (Zb (ZfX hc) (Zb (ZfX hc) ?_))
  show Tot (if decide (w64 ((a.length:Int)+1)<_)=true then _ else _) _
  rw [hw]
  refine Zj (fun _=>?_) fun h=>absurd (by omega) h
  exact Zb (ZfX hc1) (Zd (by rw [he];rfl))
theorem Zpj (a c:List UInt8) (h:(a++93::93::c).length≤1000000):ZkR (a++93::93::c)=(Zet a:Int):=by
 unfold ZkR
 rw [Zpi a c h]
 rfl
theorem Zpk:∀ (sub q x:List UInt8),sub.length≤q.length→sub.isPrefixOf (q++x)=sub.isPrefixOf q
 | [],q,x,_=>by simp
 | c::sub,[],x,h=>by simp at h
 | c::sub,d::q,x,h=>by
   show (c == d&&sub.isPrefixOf (q++x))=(c == d&&sub.isPrefixOf q)
   rw [Zpk sub q x (by simpa using h)]
theorem Zmp (p x sub:List UInt8) (j:Nat) (h:j+sub.length≤p.length):Lib.occAt (p++x) sub j=Lib.occAt p sub j:=by
 unfold Lib.occAt
 rw [List.drop_append_of_le_length (by omega)]
 exact Zpk _ _ _ (by rw [List.length_drop];omega)
theorem Zlg {p sub:List UInt8} {i:Nat} (h:Lib.index p sub=(i:Int)) (x:List UInt8):Lib.index (p++x) sub=(i:Int):=by
 have hr:=Lib.index_room p sub (by omega)
 rcases Lib.index_spec p sub with ⟨h1,_⟩ | ⟨k,h1,h2,h3,h4⟩
 ·omega
 ·obtain rfl:k=i:=by omega
  refine Lib.index_first (by rw [List.length_append];omega) (by rw [Zmp _ _ _ _ (by omega)];exact h3) fun j hj=>?_
  rw [Zmp _ _ _ _ (by omega)]
  exact h4 j hj
def keyL:List UInt8→ByteArray
 | 124::c=>Zch ZjJ (Zc4 ZjJ (bs (c.take (Lib.index (c ++ [93,93]) [93,93]).toNat)))
 | _=>⟨#[]⟩
theorem Zsg (c x:List UInt8) (h:(c++93::93::x).length≤1000000):Zul (c++93::93::x)=keyL c:=by
 have hh:Zbi (bs (c++93::93::x))=some (keyL c):=by
  refine Zay ?_
  unfold Zbi
  cases c with
  | nil=>
    refine Zb (v:=93) (ZfX (c:=93) (n:=0) rfl) (Zca (fun _=>Zd rfl) fun h=>by cases h)
  | cons d c=>
    refine Zb (ZfX (c:=d) (n:=0) rfl) ?_
    by_cases hd:d=124
    ·subst hd
     refine Zca (fun h=>absurd rfl h) fun _=>?_
     refine Zb (Zc5 _ 1 (by simp)) ?_
     show Tot ((strings_Cut (bs (c++93::93::x)) ⟨#[93,93]⟩).bind _) _
     have hz:(bs (c++93::93::x)).size≤1000000:=by
      show (c++93::93::x).length≤_
      simp only [List.length_append,List.length_cons] at h ⊢
      omega
     have ho:Lib.occAt (c ++ [93,93]) [93,93] c.length=true:=by
      unfold Lib.occAt
      rw [List.drop_left]
      rfl
     obtain ⟨i,hi,hle⟩:∃ i:Nat,Lib.index (c ++ [93,93]) [93,93]=(i:Int)∧i≤c.length:=by
      rcases Lib.index_spec (c ++ [93,93]) [93,93] with ⟨_,h2⟩ | ⟨i,h1,h2,h3,h4⟩
      ·rw [h2 _ (by rw [List.length_append];omega)] at ho
       cases ho
      ·have hr:=Lib.index_room (c ++ [93,93]) [93,93] (by omega)
       simp only [List.length_append,List.length_cons,List.length_nil] at hr
       exact ⟨i,h1,by omega⟩
     have hi2:Lib.index (c++93::93::x) [93,93]=(i:Int):=by
      have:=Zlg hi x
      rw [List.append_assoc] at this
      exact this
     have hcut:Lib.cut (c++93::93::x) [93,93]=(c.take i,(c++93::93::x).drop (i+2),true):=by
      unfold Lib.cut
      rw [if_pos (by omega),hi2,Int.toNat_natCast,List.take_append_of_le_length hle]
      rfl
     refine Zb (v:=(bs (c.take i),bs ((c++93::93::x).drop (i+2)),true)) ?_ ?_
     ·unfold strings_Cut
      rw [if_pos (by omega)]
      show some ((⟨(Lib.cut (c++93::93::x) [93,93]).1.toArray⟩:ByteArray),(⟨(Lib.cut (c++93::93::x) [93,93]).2.1.toArray⟩:ByteArray),(Lib.cut (c++93::93::x) [93,93]).2.2)=_
      rw [hcut]
      rfl
     refine ZG (fun h=>by cases h) fun _=>?_
     refine Zb (v:=Zch ZjJ (Zc4 ZjJ (bs (c.take i)))) ?_ (Zd ?_)
     ·unfold Zcf Zcq
      rw [if_pos ⟨by show (c.take i).length≤_;rw [List.length_take];simp only [List.length_append,List.length_cons] at h;omega,rfl⟩]
      rfl
     ·show _=Zch ZjJ (Zc4 ZjJ (bs (c.take (Lib.index (c ++ [93,93]) [93,93]).toNat)))
      rw [hi,Int.toNat_natCast]
    ·refine Zca (fun _=>Zd ?_) fun h=>absurd (UInt8.toNat_inj.1 (show d.toNat=124 by omega)) hd
     unfold keyL
     split
     ·rename_i e;exact absurd (List.cons.inj e).1 hd
     ·rfl
 unfold Zul
 rw [hh]
 rfl
theorem Zrh (t c x y:List UInt8) (h:(c++93::93::x).length≤1000000) (h2:(c++93::93::y).length≤1000000):item t (c++93::93::x)=item t (c++93::93::y):=by
 unfold item
 rw [Zsg c x h,Zsg c y h2]
theorem Zm8 {s:List UInt8} {i:Nat} (h:Lib.index s [91,91]=(i:Int)) (he:ZkR (s.drop (i+2))<0) (k:Nat):coll k s=([],[]):=by
 have e:(Lib.index s [91,91]).toNat=i:=by omega
 cases k with
 | zero=>rfl
 | succ k=>rw [coll,if_neg (by omega),e,if_pos he]
theorem ZnO {b s:List UInt8} {i j N M:Nat} (hb:Lib.index b [91,91]=(j:Int)) (hs:Lib.index s [91,91]=(i:Int)) (h1:s.drop (i+1)=b.drop (j+1)) (h2:s.drop (i+2)=b.drop (j+2)) (hN:s.length≤N) (hM:b.length≤M):coll N s=coll M b:=by
 have r1:=Lib.index_room s [91,91] (by omega)
 have r2:=Lib.index_room b [91,91] (by omega)
 simp only [List.length_cons,List.length_nil] at r1 r2
 obtain ⟨N,rfl⟩:∃ k,N=k+1:=⟨N - 1,by omega⟩
 obtain ⟨M,rfl⟩:∃ k,M=k+1:=⟨M - 1,by omega⟩
 by_cases he:ZkR (b.drop (j+2))<0
 ·rw [Zm8 hb he,Zm8 hs (by rw [h2];exact he)]
 ·rw [Zfd hb (by omega),Zfd hs (by rw [h2];omega),h1,h2,Zk0 N M (b.drop (j+1)) (by rw [← h1,List.length_drop];omega) (by rw [List.length_drop];omega)]
theorem Zri:∀ (n:Nat) (a b:List UInt8),a.length<n→a.length+b.length≤100000→∀ N M K:Nat,a.length+3+b.length≤N→a.length+3≤M→b.length≤K→
  coll N (a++93::93::10::b)=((coll M (a++93::93::[10])).1++(coll K b).1,(coll M (a++93::93::[10])).2++(coll K b).2):=by
 intro n
 induction n with
 | zero=>intro a b ha;omega
 | succ n ih=>
   intro a b ha hlen N M K hN hM hK
   have pl:(a++93::93::[10]).length=a.length+3:=by simp
   have sl:(a++93::93::10::b).length=a.length+3+b.length:=by simp;omega
   have sp:a++93::93::10::b=(a++93::93::[10])++b:=by simp
   by_cases hi:Lib.index (a++93::93::[10]) [91,91]<0
   ·rw [ZbO hi M]
    simp only [List.nil_append]
    have hno:Lib.NoOcc (a++93::93::10::b) [91,91] (a.length+3):=by
     intro j hj
     by_cases h2:j+2≤a.length+3
     ·rw [sp,Zmp _ _ _ _ (by rw [pl];exact h2)]
      rcases Lib.index_spec (a++93::93::[10]) [91,91] with ⟨_,h3⟩ | ⟨k,h3,_⟩
      ·exact h3 j (by omega)
      ·omega
     ·obtain rfl:j=a.length+2:=by omega
      unfold Lib.occAt
      rw [show (a++93::93::10::b).drop (a.length+2)=10::b by rw [← List.drop_drop,List.drop_left];rfl]
      rfl
    have hd:∀ m,(a++93::93::10::b).drop (a.length+3+m)=b.drop m:=fun m=>by
     rw [sp,← List.drop_drop,← pl,List.drop_left]
    have hx:=Lib.index_drop hno (by omega)
    have hd0:=hd 0
    rw [Nat.add_zero,List.drop_zero] at hd0
    rw [hd0] at hx
    have hge:=Lib.index_ge b [91,91]
    by_cases hb:Lib.index b [91,91]<0
    ·have e1:Lib.index b [91,91] = -1:=by omega
     rw [e1] at hx
     rw [ZbO hb,ZbO (by rw [hx,if_pos (by decide)];decide)]
    ·obtain ⟨j,hj⟩:∃ j:Nat,Lib.index b [91,91]=(j:Int):=⟨(Lib.index b [91,91]).toNat,by omega⟩
     rw [hj,if_neg (by rw [beq_iff_eq];omega)] at hx
     exact ZnO (i:=a.length+3+j) hj (by rw [hx];omega) (hd (j+1)) (hd (j+2)) (by omega) hK
   ·obtain ⟨i,hie⟩:∃ i:Nat,Lib.index (a++93::93::[10]) [91,91]=(i:Int):=⟨(Lib.index (a++93::93::[10]) [91,91]).toNat,by omega⟩
    have hroom:i+2≤a.length:=by
     rcases Lib.index_spec (a++93::93::[10]) [91,91] with ⟨h3,_⟩ | ⟨k,h3,h4,h5,_⟩
     ·omega
     ·obtain rfl:k=i:=by omega
      have hr:=Lib.index_room (a++93::93::[10]) [91,91] (by omega)
      simp only [List.length_cons,List.length_nil,pl] at hr
      refine Nat.le_of_not_lt fun hlt=>?_
      have g1:=ZsU h5 (k:=1) (c:=91) rfl
      rw [List.getElem?_append_right (by omega)] at g1
      have hlt3:k+1 - a.length<3:=by omega
      match hq:k+1 - a.length,hlt3,g1 with
      | 0,_,g1=>simp at g1
      | 1,_,g1=>simp at g1
      | 2,_,g1=>simp at g1
    have hs:Lib.index (a++93::93::10::b) [91,91]=(i:Int):=by rw [sp];exact Zlg hie b
    have d1:∀ m,m≤a.length→∀ y,(a++93::93::y).drop m=a.drop m++93::93::y:=fun m hm y=>List.drop_append_of_le_length hm
    have la:(a.drop (i+2)).length=a.length - (i+2):=List.length_drop
    have e1:=Zpj (a.drop (i+2)) [10] (by simp only [List.length_append,List.length_cons,List.length_nil];omega)
    have e2:=Zpj (a.drop (i+2)) (10::b) (by simp only [List.length_append,List.length_cons];omega)
    have hel:=Zmo (a.drop (i+2))
    obtain ⟨N,rfl⟩:∃ k,N=k+1:=⟨N - 1,by omega⟩
    obtain ⟨M,rfl⟩:∃ k,M=k+1:=⟨M - 1,by omega⟩
    rw [Zfd hie (by rw [d1 _ hroom,e1];omega),Zfd hs (by rw [d1 _ hroom,e2];omega)]
    rw [d1 _ hroom,d1 _ hroom,e1,e2,Int.toNat_natCast]
    rw [List.take_append_of_le_length hel,List.take_append_of_le_length hel,List.drop_append_of_le_length hel,List.drop_append_of_le_length hel]
    have ld:((a.drop (i+2)).drop (Zet (a.drop (i+2)))).length≤a.length:=by rw [List.length_drop];omega
    rw [Zrh _ _ (10::b) [10] (by simp only [List.length_append,List.length_cons];omega) (by simp only [List.length_append,List.length_cons,List.length_nil];omega)]
    rw [d1 _ (by omega),d1 _ (by omega)]
    rw [ih (a.drop (i+1)) b (by rw [List.length_drop];omega) (by rw [List.length_drop];omega) N M K (by rw [List.length_drop];omega) (by rw [List.length_drop];omega) hK]
    simp only [List.append_assoc]
theorem Zip:∀ (p a x:List UInt8),(∀ c ∈ p,c≠93)→p.isPrefixOf (a++93::x)=p.isPrefixOf a
 | [],a,x,_=>by simp
 | c::p,[],x,h=>by
   show (c == 93&&p.isPrefixOf x)=false
   rw [show (c == 93)=false from by rw [beq_eq_false_iff_ne];exact h c (by simp)]
   rfl
 | c::p,d::a,x,h=>by
   show (c == d&&p.isPrefixOf (a++93::x))=(c == d&&p.isPrefixOf a)
   rw [Zip p a x fun c hc=>h c (List.mem_cons_of_mem _ hc)]
theorem ZmY (q:UInt8→Bool) (hq:q 93=false):∀ (a x:List UInt8),(a++93::x).dropWhile q=a.dropWhile q++93::x
 | [],x=>by
   show (93::x).dropWhile q=93::x
   rw [List.dropWhile_cons,hq]
   rfl
 | c::a,x=>by
   show (c::(a++93::x)).dropWhile q=(c::a).dropWhile q++93::x
   rw [List.dropWhile_cons,List.dropWhile_cons]
   cases q c with
   | true=>rw [if_pos rfl,if_pos rfl];exact ZmY q hq a x
   | false=>rfl
theorem ZoT (l p:List UInt8):ZaN (bs l) (bs p)=some (if p.isPrefixOf l=true then (bs (l.drop p.length),true) else (bs l,false)):=by
 refine Zay ?_
 unfold ZaN Zas
 refine Zaj (Q:=fun r=>r=if p.isPrefixOf l=true then (bs (l.drop p.length),true) else (bs l,false)) (Zb (Zfp l p) (ZG (fun h=>?_) fun h=>?_)) fun r hr=>Zd (by rw [← hr])
 ·have h:p.isPrefixOf l=false:=by cases hb:p.isPrefixOf l<;>simp_all
  rw [if_neg (by rw [h];decide)]
  exact Zd rfl
 ·have h:p.isPrefixOf l=true:=by cases hb:p.isPrefixOf l<;>simp_all
  rw [if_pos h]
  have hl:p.length≤l.length:=(List.isPrefixOf_iff_prefix.1 h).length_le
  exact Zb (Zc5 l p.length hl) (Zd rfl)
theorem ZtH (a:List UInt8) (h:a.length≤1000):∃ q,∀ c:List UInt8,c.length≤1000→ZaE (bs (a++93::93::c))=some q:=by
 by_cases hp:([35,82,69,68,73,82,69,67,84]:List UInt8).isPrefixOf a=true
 ·have hl9:9≤a.length:=(List.isPrefixOf_iff_prefix.1 hp).length_le
  have d1:∀ c,(a++93::93::c).drop 9=a.drop 9++93::93::c:=fun c=>List.drop_append_of_le_length hl9
  have d2:=ZmY cutB.contains (by decide)
  have l2:((a.drop 9).dropWhile cutB.contains).length≤a.length:=Nat.le_trans (List.dropWhile_suffix _).length_le (by rw [List.length_drop];omega)
  generalize ha2:(a.drop 9).dropWhile cutB.contains=a2 at l2
  have start:∀ (c:List UInt8),c.length≤1000→∀ {R:Title×Bool→Prop},Tot ((ZaN (bs (a2++93::93::c)) ⟨#[91,91]⟩).bind fun r3=>(ZbG r3.1).bind fun r4=>
    letk (fun (x9:Bool)=>if x9 then (some ((⟨0,(⟨#[]⟩:ByteArray)⟩:Title),false):Option (Title×Bool)) else (ZeZ r3.1 0 r4).bind fun l10=>(Zbs l10).bind fun r11=>(some (r11.1,(decide (r11.2=0))):Option (Title×Bool))) fun k1=>
    if (!r3.2) then k1 true else if (decide (r4<0)) then k1 true else (ZeZ r3.1 0 r4).bind fun l12=>(strings_Contains l12 (⟨#[91,91]⟩:ByteArray)).bind fun r13=>if r13 then k1 true else (ZeZ r3.1 0 r4).bind fun l14=>(strings_Contains l14 (⟨#[10]⟩:ByteArray)).bind fun r15=>k1 r15) R→Tot (ZaE (bs (a++93::93::c))) R:=fun c hc R hT=>by
   unfold ZaE
   refine Zb (ZoT (a++93::93::c) [35,82,69,68,73,82,69,67,84]) ?_
   rw [Zip _ a (93::c) (by decide),if_pos hp]
   refine ZG (fun h=>by cases h) fun _=>?_
   refine Zb (v:=bs (a2++93::93::c)) ?_ hT
   show ZaB (bs ((a++93::93::c).drop 9)) _=_
   rw [d1]
   unfold ZaB
   rw [if_pos rfl]
   show some (bs ((a.drop 9++93::93::c).dropWhile cutB.contains))=_
   rw [d2,ha2]
  by_cases h2:([91,91]:List UInt8).isPrefixOf a2=true
  ·have hl2:2≤a2.length:=(List.isPrefixOf_iff_prefix.1 h2).length_le
   have d3:∀ c,(a2++93::93::c).drop 2=a2.drop 2++93::93::c:=fun c=>List.drop_append_of_le_length hl2
   have l3:(a2.drop 2).length≤1000:=by rw [List.length_drop];omega
   generalize a2.drop 2=a3 at d3 l3
   have hel:=Zmo a3
   have lt:(a3.take (Zet a3)).length≤1000:=by rw [List.length_take];omega
   obtain ⟨hp1,_⟩:=Zkf (d:=(⟨0,⟨#[]⟩⟩,1)) (ZpZ (bs (a3.take (Zet a3))) lt)
   have hp2:(Zbs (bs (a3.take (Zet a3)))).getD (⟨0,⟨#[]⟩⟩,1)=ZfM (a3.take (Zet a3)):=rfl
   rw [hp2] at hp1
   refine ⟨if Lib.contains (a3.take (Zet a3)) [91,91]=true∨Lib.contains (a3.take (Zet a3)) [10]=true then (⟨0,⟨#[]⟩⟩,false) else ((ZfM (a3.take (Zet a3))).1,decide ((ZfM (a3.take (Zet a3))).2=0)),fun c hc=>Zay (start c hc ?_)⟩
   refine Zb (ZoT (a2++93::93::c) [91,91]) ?_
   rw [Zip _ a2 (93::c) (by decide),if_pos h2]
   show Tot ((ZbG (bs ((a2++93::93::c).drop 2))).bind _) _
   have sb:∀ c:List UInt8,ZeZ (bs (a3++93::93::c)) 0 (Zet a3:Int)=some (bs (a3.take (Zet a3))):=fun c=>by
    have:=ZmG (a3++93::93::c) 0 (Zet a3) (by omega) (by rw [List.length_append];omega)
    rw [List.drop_zero,List.take_append_of_le_length hel] at this
    exact this
   dsimp only
   rw [show ([91,91]:List UInt8).length=2 from rfl,d3 c]
   refine Zb (Zpi a3 c (by simp only [List.length_append,List.length_cons];omega)) ?_
   refine Zap (fun q=>((Lib.contains (a3.take (Zet a3)) [91,91]=true∨Lib.contains (a3.take (Zet a3)) [10]=true)→Tot (q true) (fun r=>r=if Lib.contains (a3.take (Zet a3)) [91,91]=true∨Lib.contains (a3.take (Zet a3)) [10]=true then (⟨0,⟨#[]⟩⟩,false) else ((ZfM (a3.take (Zet a3))).1,decide ((ZfM (a3.take (Zet a3))).2=0))))∧(¬ (Lib.contains (a3.take (Zet a3)) [91,91]=true∨Lib.contains (a3.take (Zet a3)) [10]=true)→Tot (q false) (fun r=>r=if Lib.contains (a3.take (Zet a3)) [91,91]=true∨Lib.contains (a3.take (Zet a3)) [10]=true then (⟨0,⟨#[]⟩⟩,false) else ((ZfM (a3.take (Zet a3))).1,decide ((ZfM (a3.take (Zet a3))).2=0))))) ⟨fun hc=>?_,fun hc=>?_⟩ fun k1 hk=>?_
   ·rw [if_pos hc]
    exact ZG (fun _=>Zd rfl) fun h=>by cases h
   ·rw [if_neg hc]
    refine ZG (fun h=>by cases h) fun _=>?_
    exact Zb (sb c) (Zb hp1 (Zd rfl))
   ·have zt:(bs (a3.take (Zet a3))).size≤1000:=lt
    refine ZG (fun h=>by cases h) fun _=>Zj (fun h=>absurd h (by omega)) fun _=>?_
    refine Zb (sb c) (Zb (v:=Lib.contains (a3.take (Zet a3)) [91,91]) (by unfold strings_Contains;rw [if_pos (by omega)];rfl) ?_)
    refine ZG (fun hc=>hk.1 (.inl hc)) fun hc1=>?_
    refine Zb (sb c) (Zb (v:=Lib.contains (a3.take (Zet a3)) [10]) (by unfold strings_Contains;rw [if_pos (by omega)];rfl) ?_)
    rcases Bool.eq_false_or_eq_true (Lib.contains (a3.take (Zet a3)) [10]) with h10 | h10
    ·rw [show k1 (Lib.contains (a3.take (Zet a3)) [10])=k1 true from congrArg k1 h10]
     exact hk.1 (.inr h10)
    ·rw [show k1 (Lib.contains (a3.take (Zet a3)) [10])=k1 false from congrArg k1 h10]
     exact hk.2 fun h=>by rcases h with h | h<;>simp_all
  ·refine ⟨(⟨0,⟨#[]⟩⟩,false),fun c hc=>Zay (start c hc ?_)⟩
   refine Zb (ZoT (a2++93::93::c) [91,91]) ?_
   rw [Zip _ a2 (93::c) (by decide),if_neg h2]
   refine Zb (Zpi a2 c (by simp only [List.length_append,List.length_cons];omega)) (ZaL ?_)
   exact ZG (fun _=>Zd rfl) fun h=>by cases h
 ·refine ⟨(⟨0,⟨#[]⟩⟩,false),fun c hc=>Zay ?_⟩
  unfold ZaE
  refine Zb (ZoT (a++93::93::c) [35,82,69,68,73,82,69,67,84]) ?_
  rw [Zip _ a (93::c) (by decide),if_neg hp]
  exact ZG (fun _=>Zd rfl) fun h=>by cases h
end Go.Proofs.YtmgfammllddkhaaGreatDoor
namespace Go.Proofs.YtmgfammllddkhaaGreatDoor
namespace VL
section
variable {α:Type}
def Ztn (le:α→α→Bool) (r:List α→List α) (x:α) (s:List α):List α→List α
 | []=>x::s
 | y::t=>if le x y=true then x::r (y::t) else y::Ztn le r x s t
def ZZ (le:α→α→Bool):List α→List α→List α
 | [],t=>t
 | x::s,t=>Ztn le (ZZ le s) x s t
variable {le:α→α→Bool}
theorem ZbF (s:List α):ZZ le s []=s:=by cases s<;>rfl
theorem Zc8 {x y:α} {s t:List α} (h:le x y=true):ZZ le (x::s) (y::t)=x::ZZ le s (y::t):=by
 show Ztn le (ZZ le s) x s (y::t)=_
 unfold Ztn
 rw [if_pos h]
theorem Zdx {x y:α} {s t:List α} (h:le x y=false):ZZ le (x::s) (y::t)=y::ZZ le (x::s) t:=by
 show Ztn le (ZZ le s) x s (y::t)=_
 rw [Ztn,if_neg (by rw [h];decide)]
 rfl
theorem Zb9:∀ (A B C D:List α),(∀ u ∈ A,∀ v ∈ D,le u v=true)→(∀ v ∈ C,∀ u ∈ B,le u v=false)→ZZ le (A++B) (C++D)=ZZ le A C++ZZ le B D
 | [],B,[],D,_,_=>rfl
 | [],[],v::C,D,_,_=>rfl
 | [],u::B,v::C,D,h1,h2=>by
   rw [List.nil_append,List.cons_append,Zdx (h2 v (by simp) u (by simp))]
   have:=Zb9 [] (u::B) C D h1 fun v hv=>h2 v (List.mem_cons_of_mem _ hv)
   rw [List.nil_append] at this
   rw [this]
   rfl
 | u::A,B,[],[],_,_=>by rw [List.append_nil,ZbF,ZbF,ZbF]
 | u::A,B,[],w::D,h1,h2=>by
   rw [List.nil_append,List.cons_append,Zc8 (h1 u (by simp) w (by simp))]
   have:=Zb9 A B [] (w::D) (fun u hu=>h1 u (List.mem_cons_of_mem _ hu)) h2
   rw [List.nil_append] at this
   rw [this,ZbF,ZbF]
   rfl
 | u::A,B,v::C,D,h1,h2=>by
   rw [List.cons_append,List.cons_append]
   cases h:le u v with
   | true=>
     rw [Zc8 h,Zc8 h]
     have:=Zb9 A B (v::C) D (fun u hu=>h1 u (List.mem_cons_of_mem _ hu)) h2
     rw [List.cons_append] at this
     rw [this]
     rfl
   | false=>
     rw [Zdx h,Zdx h]
     have:=Zb9 (u::A) B C D h1 fun v hv=>h2 v (List.mem_cons_of_mem _ hv)
     rw [List.cons_append] at this
     rw [this]
     rfl
 termination_by A _ C _=>A.length+C.length
theorem Zek (ht:∀ a b c,le a b=true→le b c=true→le a c=true) (hl:∀ a b,(le a b||le b a)=true) (x:α):∀ (S T:List α),ZgP le x (ZZ le S T)=ZZ le (ZgP le x S) T
 | [],[]=>rfl
 | [],b::T=>by
   show ZgP le x (b::T)=ZZ le [x] (b::T)
   cases h:le x b with
   | true=>
     rw [Zc8 h,ZgP,if_pos h]
     rfl
   | false=>
     rw [Zdx h,ZgP,if_neg (by rw [h];decide)]
     have:=Zek ht hl x [] T
     exact congrArg (b :: ·) this
 | a::S,[]=>by rw [ZbF,ZbF]
 | a::S,b::T=>by
   have tot:∀ a b,le a b=false→le b a=true:=fun a b h=>by have:=hl a b;rw [h] at this;exact this
   cases hxa:le x a with
   | true=>
     have e:ZgP le x (a::S)=x::a::S:=by rw [ZgP,if_pos hxa]
     rw [e]
     cases hab:le a b with
     | true=>
       rw [Zc8 hab,Zc8 (ht x a b hxa hab),Zc8 hab,ZgP,if_pos hxa]
     | false=>
       rw [Zdx hab]
       cases hxb:le x b with
       | true=>rw [Zc8 hxb,Zdx hab,ZgP,if_pos hxb]
       | false=>
         rw [Zdx hxb,ZgP,if_neg (by rw [hxb];decide)]
         have:=Zek ht hl x (a::S) T
         rw [this,e]
   | false=>
     have e:ZgP le x (a::S)=a::ZgP le x S:=by rw [ZgP,if_neg (by rw [hxa];decide)]
     rw [e]
     cases hab:le a b with
     | true=>
       rw [Zc8 hab,Zc8 hab,ZgP,if_neg (by rw [hxa];decide),Zek ht hl x S (b::T)]
     | false=>
       have hxb:le x b=false:=by
        cases h:le x b with
        | false=>rfl
        | true=>
          have:=ht x b a h (tot a b hab)
          rw [hxa] at this
          cases this
       rw [Zdx hab,Zdx hab,ZgP,if_neg (by rw [hxb];decide)]
       have:=Zek ht hl x (a::S) T
       rw [this,e]
 termination_by S T=>S.length+T.length
theorem Zfa (ht:∀ a b c,le a b=true→le b c=true→le a c=true) (hl:∀ a b,(le a b||le b a)=true):∀ (A B:List α),Zae le (A++B)=ZZ le (Zae le A) (Zae le B)
 | [],B=>rfl
 | x::A,B=>by
   show ZgP le x (Zae le (A++B))=ZZ le (ZgP le x (Zae le A)) (Zae le B)
   rw [Zfa ht hl A B,Zek ht hl]
theorem Znz (ht:∀ a b c,le a b=true→le b c=true→le a c=true) (hl:∀ a b,(le a b||le b a)=true) (A:List α) (y:α):Zae le (A ++ [y])=ZZ le (Zae le A) [y]:=Zfa ht hl A [y]
theorem Zia {y:α} {A B:List α} (h1:∀ u ∈ A,le u y=true) (h2:∀ u ∈ B,le u y=false):ZZ le (A++B) [y]=A++y::B:=by
 have e:ZZ le (A++B) [y]=ZZ le A []++ZZ le B [y]:=Zb9 A B [] [y] (fun u hu v hv=>List.mem_singleton.1 hv ▸ h1 u hu) (fun v hv=>by cases hv)
 rw [e,ZbF]
 congr 1
 cases B with
 | nil=>rfl
 | cons b B=>rw [Zdx (h2 b (by simp)),ZbF]
theorem Zl9 {x:α} {C D:List α} (h1:∀ v ∈ D,le x v=true) (h2:∀ v ∈ C,le x v=false):ZZ le [x] (C++D)=C++x::D:=by
 have e:ZZ le [x] (C++D)=C++ZZ le [x] D:=Zb9 [] [x] C D (fun u hu=>by cases hu) (fun v hv u hu=>List.mem_singleton.1 hu ▸ h2 v hv)
 rw [e]
 congr 1
 cases D with
 | nil=>rfl
 | cons d D=>rw [Zc8 (h1 d (by simp))];rfl
theorem ZU (l:List α):(Zae le l).length=l.length:=(ZcM le l).length_eq
theorem ZnA (S T:List α):(ZZ le S T).Perm (S++T):=by
 induction S generalizing T with
 | nil=>exact .refl _
 | cons x S ih=>
   induction T with
   | nil=>rw [ZbF,List.append_nil]
   | cons y T ih2=>
     cases h:le x y with
     | true=>
       rw [Zc8 h]
       exact (ih (y::T)).cons x
     | false=>
       rw [Zdx h]
       refine (ih2.cons y).trans ?_
       exact (List.perm_middle (a:=y) (l₁:=x::S) (l₂:=T)).symm
theorem Zos (S T:List α):(ZZ le S T).length=S.length+T.length:=by rw [(ZnA S T).length_eq,List.length_append]
end
end VL
end Go.Proofs.YtmgfammllddkhaaGreatDoor
namespace Go.Proofs.YtmgfammllddkhaaGreatDoor
open VL
theorem Zbc {α:Type} {l A B:List α} {x:α} {n:Int} (h:l=A++x::B) (hn:n=(A.length:Int)):atI l n=some x:=by
 subst h hn
 unfold atI
 rw [if_pos (by omega),Int.toNat_natCast,List.getElem?_append_right (Nat.le_refl _),Nat.sub_self]
 rfl
theorem ZeR {α:Type} {l A B:List α} {x y:α} {n:Int} (h:l=A++x::B) (hn:n=(A.length:Int)):ZeK l n y=A++y::B:=by
 subst h hn
 unfold ZeK
 rw [Int.toNat_natCast,List.set_append_right _ _ (Nat.le_refl _),Nat.sub_self]
 rfl
theorem Zex {a b:Int} (h0:0≤a) (h1:0≤b) (ha:a≤10000000) (hb:b≤10000000):w64 (a+b)=a+b:=ZaH (by omega) (by omega)
theorem Zeh {a b:Int} (h0:0≤a) (h1:0≤b) (ha:a≤10000000) (hb:b≤10000000):w64 (a - b)=a - b:=ZaH (by omega) (by omega)
theorem ZpW (P X Q Y S:List Memb) (hXY:X.length=Y.length) (hL:(P++X++Q++Y++S).length≤1000000) (p1 p2 n:Int) (h1:p1=(P.length:Int)) (h2:p2=((P++X++Q).length:Int)) (hn:n=(X.length:Int)) :
  ZC (P++X++Q++Y++S) p1 p2 n=some (P++Y++Q++X++S):=by
 simp only [List.length_append] at hL h2
 refine Zay ?_
 unfold ZC
 refine Zac (fun a=>∃ X1 X2 Y1 Y2:List Memb,X=X1++X2∧Y=Y1++Y2∧X1.length=Y1.length∧a.1=(X1.length:Int)∧a.2=P++Y1++X2++Q++X1++Y2++S) (fun a=>X.length - a.1.toNat) ⟨[],X,[],Y,rfl,rfl,rfl,rfl,by simp⟩ (by dsimp only;omega) ?_
 rintro ⟨i,l⟩ rec ⟨X1,X2,Y1,Y2,hX,hY,hxy,hi,hl⟩ ih
 dsimp only at hi hl ih ⊢
 have lX:X.length=X1.length+X2.length:=by rw [hX,List.length_append]
 have lY:Y.length=Y1.length+Y2.length:=by rw [hY,List.length_append]
 refine Zj (fun hlt=>?_) (fun hge=>?_)
 ·obtain ⟨x,X2,rfl⟩:∃ x X',X2=x::X':=by
   cases X2 with
   | nil=>simp at lX;omega
   | cons x X'=>exact ⟨x,X',rfl⟩
  obtain ⟨y,Y2,rfl⟩:∃ y Y',Y2=y::Y':=by
   cases Y2 with
   | nil=>simp at lY lX;omega
   | cons y Y'=>exact ⟨y,Y',rfl⟩
  simp only [List.length_cons] at lX lY
  have e1:w64 (p1+i)=p1+i:=Zex (by omega) (by omega) (by omega) (by omega)
  have e2:w64 (p2+i)=p2+i:=Zex (by omega) (by omega) (by omega) (by omega)
  have d1:l=(P++Y1)++x::(X2++Q++X1++(y::Y2)++S):=by rw [hl];simp
  have d2:l=(P++Y1++(x::X2)++Q++X1)++y::(Y2++S):=by rw [hl];simp
  have n1:p1+i=((P++Y1).length:Int):=by simp only [List.length_append];omega
  have n2:p2+i=((P++Y1++(x::X2)++Q++X1).length:Int):=by simp only [List.length_append,List.length_cons];omega
  have d3:ZeK l (p1+i) y=(P++Y1++(y::X2)++Q++X1)++y::(Y2++S):=by rw [ZeR d1 n1];simp
  have n3:p2+i=((P++Y1++(y::X2)++Q++X1).length:Int):=by rw [n2];simp
  rw [e1,e2,Zex (by omega) (by omega) (by omega) (by omega)]
  refine Zb (Zbc d2 n2) (Zb (Zbc d1 n1) (Zb (Zbc d1 n1) (Zb (Zbc d3 n3) ?_)))
  refine ih _ ⟨X1 ++ [x],X2,Y1 ++ [y],Y2,by simp [hX],by simp [hY],by simp [hxy],by simp;omega,?_⟩ (by dsimp only;omega)
  dsimp only
  rw [ZeR d3 n3]
  simp
 ·have z1:X2 = []:=List.eq_nil_of_length_eq_zero (by omega)
  have z2:Y2 = []:=List.eq_nil_of_length_eq_zero (by omega)
  subst z1 z2
  refine Zd ?_
  rw [hl,hX,hY]
  simp
theorem ZrI (P U V S:List Memb) (hU:0<U.length) (hV:0<V.length) (hL:(P++U++V++S).length≤1000000) (a m b:Int) (ha:a=(P.length:Int)) (hm:m=((P++U).length:Int)) (hb:b=((P++U++V).length:Int)) :
  ZJ (P++U++V++S) a m b=some (P++V++U++S):=by
 simp only [List.length_append] at hL hm hb
 refine Zay ?_
 unfold ZJ
 have e1:w64 (m - a)=(U.length:Int):=by rw [Zeh (by omega) (by omega) (by omega) (by omega)];omega
 have e2:w64 (b - m)=(V.length:Int):=by rw [Zeh (by omega) (by omega) (by omega) (by omega)];omega
 rw [e1,e2]
 refine Zac (fun x=>∃ A U1 V1 B:List Memb,0<U1.length∧0<V1.length∧x.1=(U1.length:Int)∧x.2.1=(V1.length:Int)∧x.2.2=P++A++U1++V1++B++S∧A++V1++U1++B=V++U∧P.length+A.length+U1.length=P.length+U.length) (fun x=>x.1.toNat+x.2.1.toNat)
  ⟨[],U,V,[],hU,hV,rfl,rfl,by simp,by simp,by simp⟩ (by dsimp only;omega) ?_
 rintro ⟨i,j,l⟩ rec ⟨A,U1,V1,B,hU1,hV1,hi,hj,hl,hfin,hpos⟩ ih
 dsimp only at hi hj hl ih ⊢
 have htot:A.length+V1.length+U1.length+B.length=V.length+U.length:=by
  have:=congrArg List.length hfin
  simpa only [List.length_append] using this
 have e3:w64 (m - i)=m - i:=Zeh (by omega) (by omega) (by omega) (by omega)
 refine Zca (fun hne=>?_) (fun heq=>?_)
 ·refine Zj (fun hlt=>?_) (fun hge=>?_)
  ·
   have s1:U1=U1.take V1.length++U1.drop V1.length:=(List.take_append_drop _ _).symm
   have l1:(U1.take V1.length).length=V1.length:=by rw [List.length_take];omega
   have l2:(U1.drop V1.length).length=U1.length - V1.length:=List.length_drop
   generalize hUa:U1.take V1.length=Ua at s1 l1
   generalize hUb:U1.drop V1.length=Ub at s1 l2
   have hd:l=(P++A)++Ua++Ub++V1++(B++S):=by rw [hl,s1];simp
   have hsw:=ZpW (P++A) Ua Ub V1 (B++S) l1 (by simp only [List.length_append];omega) (m - i) m j (by simp only [List.length_append];omega) (by simp only [List.length_append];omega) (by omega)
   rw [e3,Zeh (by omega) (by omega) (by omega) (by omega),hd]
   refine Zb hsw ?_
   refine ih _ ⟨A++V1,Ub,Ua,B,by omega,by omega,by dsimp only;omega,by dsimp only;omega,?_,?_,?_⟩ (by dsimp only;omega)
   ·dsimp only
    simp
   ·rw [← hfin,s1]
    simp
   ·rw [List.length_append]
    omega
  ·have s1:V1=V1.take (V1.length - U1.length)++V1.drop (V1.length - U1.length):=(List.take_append_drop _ _).symm
   have l1:(V1.take (V1.length - U1.length)).length=V1.length - U1.length:=by rw [List.length_take];omega
   have l2:(V1.drop (V1.length - U1.length)).length=U1.length:=by rw [List.length_drop];omega
   generalize hUa:V1.take (V1.length - U1.length)=Va at s1 l1
   generalize hUb:V1.drop (V1.length - U1.length)=Vb at s1 l2
   have hd:l=(P++A)++U1++Va++Vb++(B++S):=by rw [hl,s1];simp
   have e4:w64 (w64 (m+j) - i)=m+j - i:=by rw [Zex (by omega) (by omega) (by omega) (by omega),Zeh (by omega) (by omega) (by omega) (by omega)]
   have hsw:=ZpW (P++A) U1 Va Vb (B++S) (by omega) (by simp only [List.length_append];omega) (m - i) (m+j - i) i (by simp only [List.length_append];omega) (by simp only [List.length_append];omega) (by omega)
   rw [e3,e4,Zeh (by omega) (by omega) (by omega) (by omega),hd]
   refine Zb hsw ?_
   refine ih _ ⟨A,Vb,Va,U1++B,by omega,by omega,by dsimp only;omega,by dsimp only;omega,?_,?_,?_⟩ (by dsimp only;omega)
   ·dsimp only
    simp
   ·rw [← hfin,s1]
    simp
   ·omega
 ·have hd:l=(P++A)++U1 ++ []++V1++(B++S):=by rw [hl];simp
  have hsw:=ZpW (P++A) U1 [] V1 (B++S) (by omega) (by simp only [List.length_append,List.length_nil];omega) (m - i) m i (by simp only [List.length_append];omega) (by simp only [List.length_append,List.length_nil];omega) (by omega)
  rw [e3,hd]
  refine Zb hsw (Zd ?_)
  have:(P++A)++V1 ++ []++U1++(B++S)=P++(A++V1++U1++B)++S:=by simp
  rw [this,hfin]
  simp
end Go.Proofs.YtmgfammllddkhaaGreatDoor
namespace Go.Proofs.YtmgfammllddkhaaGreatDoor
open VL
open Go.Sort
def ZdL (a b:Memb):Int:=Title.cmp a.category b.category
theorem ZpX:SWO (ltOf ZdL) where
 irrefl x:=titleCmp_laws.swo.irrefl x.category
 trans x y z:=titleCmp_laws.swo.trans x.category y.category z.category
 ntrans x y z:=titleCmp_laws.swo.ntrans x.category y.category z.category
def leM:Memb→Memb→Bool:=leC ZdL
theorem Zbk:∀ a b c,leM a b=true→leM b c=true→leM a c=true:=Zlj ZpX
theorem Zey:∀ a b,(leM a b||leM b a)=true:=Zlk ZpX
theorem ZrJ (a b:Int):cmp_Compare_int a b=some (Lib.compareInt a b):=by
 refine Zay ?_
 unfold cmp_Compare_int Zcs Lib.compareInt
 refine Zb rfl (Zb rfl ?_)
 rw [decide_eq_true (rfl:a=a),decide_eq_true (rfl:b=b)]
 refine ZG (fun h=>by cases h) fun _=>ZG (fun h=>by cases h) fun _=>?_
 refine Zj (fun h=>?_) fun h=>?_
 ·rw [if_pos h];exact Zd rfl
 ·rw [if_neg h]
  refine Zj (fun h2=>?_) fun h2=>?_
  ·rw [if_pos h2];exact Zd rfl
  ·rw [if_neg h2];exact Zd rfl
theorem ZuK (a b:Int):Zdu [a,b]=some (orI [a,b]):=by
 rw [ZmK]
 unfold Zq7
 refine Zay ?_
 unfold Zdu
 refine Zc3 (n:=4611686018427387903) rfl (Zj (fun _=>?_) fun h=>absurd (show (0:Int)<2 by decide) h)
 refine Zb (v:=a) rfl (Zca (fun h=>?_) fun h=>?_)
 ·rw [if_neg h];exact Zd rfl
 ·rw [if_pos h]
  refine Zc3 (n:=4611686018427387902) rfl (Zj (fun _=>?_) fun h=>absurd (show (1:Int)<2 by decide) h)
  refine Zb (v:=b) rfl (Zca (fun h=>Zd rfl) fun h=>?_)
  rw [h]
  exact Zc3 (n:=4611686018427387901) rfl (Zj (fun h=>absurd h (show ¬ (2:Int)<2 by decide)) fun _=>Zd rfl)
theorem Zjj (a b:Title):Zct a b=some (Title.cmp a b):=by
 unfold Zct strings_Compare
 rw [ZrJ]
 show (Zdu [Lib.compareInt a.space b.space,Lib.compareBytes a.name.data.toList b.name.data.toList]).bind _=_
 rw [ZuK]
 rfl
theorem Znk (a b:Memb):ZbS a b=some (ZdL a b):=by
 unfold ZbS
 rw [Zjj]
 rfl
theorem ZhY {x y:Memb} (h:¬ ZdL x y<0):leM y x=true:=by
 unfold leM leC ltOf
 rw [decide_eq_false h]
 rfl
theorem ZkA {x y:Memb} (h:ZdL x y<0):leM y x=false:=by
 unfold leM leC ltOf
 rw [decide_eq_true h]
 rfl
theorem Zta {l:List Memb} {z y:Memb} (h:(l ++ [z]).Pairwise (fun a b=>leM a b=true)) (hz:leM z y=true):∀ u ∈ l ++ [z],leM u y=true:=fun u hu=>by
 rcases List.mem_append.1 hu with hu | hu
 ·exact Zbk _ _ _ ((List.pairwise_append.1 h).2.2 u hu z (by simp)) hz
 ·rw [List.mem_singleton.1 hu]
  exact hz
theorem ZtZ (P U S:List Memb) (hL:(P++U++S).length≤1000000) (a b:Int) (ha:a=(P.length:Int)) (hb:b=((P++U).length:Int)) :
  ZD (P++U++S) a b=some (P++Zae leM U++S):=by
 simp only [List.length_append] at hL hb
 refine Zay ?_
 unfold ZD
 have e0:w64 (a+1)=a+1:=Zex (by omega) (by omega) (by omega) (by omega)
 rw [e0]
 cases U with
 | nil=>
   simp only [List.length_nil] at hb
   refine Zc3 (n:=4611686018427387903) rfl (Zj (fun h=>by omega) fun _=>Zd rfl)
 | cons u U=>
   simp only [List.length_cons] at hL hb
   refine Zac (fun x=>∃ U1 U2:List Memb,u::U=U1++U2∧0<U1.length∧x.1=(P.length:Int)+(U1.length:Int)∧x.2=P++Zae leM U1++U2++S) (fun x=>(u::U).length+P.length - x.1.toNat) ⟨[u],U,rfl,by simp,by simp [ha],by simp [Zae,ZgP]⟩ (by dsimp only;simp only [List.length_cons];omega) ?_
   rintro ⟨i,l⟩ rec ⟨U1,U2,hU,hU1,hi,hl⟩ ih
   dsimp only at hi hl ih ⊢
   have lU:U.length+1=U1.length+U2.length:=by have:=congrArg List.length hU;simpa only [List.length_cons,List.length_append] using this
   have lI:(Zae leM U1).length=U1.length:=ZU U1
   refine Zj (fun hlt=>?_) (fun hge=>?_)
   ·obtain ⟨y,U2,rfl⟩:∃ y U',U2=y::U':=by
     cases U2 with
     | nil=>simp only [List.length_nil] at lU;omega
     | cons y U'=>exact ⟨y,U',rfl⟩
    simp only [List.length_cons] at lU
    have hsorted:=Zfj Zbk Zey U1
    refine Zac (fun x=>∃ A B:List Memb,Zae leM U1=A++B∧(∀ v ∈ B,leM v y=false)∧x.1=(P.length:Int)+(A.length:Int)∧x.2=P++A++y::B++U2++S) (fun x=>x.1.toNat) ⟨Zae leM U1,[],by simp,by simp,by rw [lI];exact hi,by rw [hl];simp⟩ (by dsimp only;omega) ?_
    rintro ⟨j,l2⟩ rec2 ⟨A,B,hAB,hB,hj,hl2⟩ ih2
    dsimp only at hj hl2 ih2 ⊢
    have lAB:A.length+B.length=U1.length:=by have:=congrArg List.length hAB;rw [lI,List.length_append] at this;exact this.symm
    have fin:(∀ v ∈ A,leM v y=true)→Tot (rec (w64 (i+1),l2)) (fun r=>r=P++Zae leM (u::U)++S):=fun hA=>by
     rw [Zex (by omega) (by omega) (by omega) (by omega)]
     refine ih _ ⟨U1 ++ [y],U2,by rw [hU];simp,by simp,by simp;omega,?_⟩ (by dsimp only;simp only [List.length_cons];omega)
     dsimp only
     rw [Znz Zbk Zey,hAB,Zia hA hB,hl2]
     simp
    refine Zap (fun q=>((∀ v ∈ A,leM v y=true)→Tot (q false) (fun r=>r=P++Zae leM (u::U)++S))∧(∀ A' z,A=A' ++ [z]→leM z y=false→Tot (q true) (fun r=>r=P++Zae leM (u::U)++S))) ⟨fun hA=>?_,fun A' z hAz hz=>?_⟩ fun q hq=>?_
    ·exact ZG (fun h=>by cases h) fun _=>fin hA
    ·refine ZG (fun _=>?_) fun h=>by cases h
     subst hAz
     simp only [List.length_append,List.length_singleton] at hj lAB
     have e1:w64 (j - 1)=j - 1:=Zeh (by omega) (by omega) (by omega) (by omega)
     have d1:l2=(P++A')++z::(y::B++U2++S):=by rw [hl2];simp
     have d2:l2=(P++A' ++ [z])++y::(B++U2++S):=by rw [hl2];simp
     have n1:j - 1=((P++A').length:Int):=by simp only [List.length_append];omega
     have n2:j=((P++A' ++ [z]).length:Int):=by simp only [List.length_append,List.length_singleton];omega
     have d3:ZeK l2 j z=(P++A')++z::(z::(B++U2++S)):=by rw [ZeR d2 n2];simp
     rw [e1]
     refine Zb (Zbc d1 n1) (Zb (Zbc d2 n2) (Zb (Zbc d2 n2) (Zb (Zbc d3 n1) ?_)))
     refine ih2 _ ⟨A',z::B,by rw [hAB];simp,fun v hv=>?_,by dsimp only;omega,?_⟩ (by dsimp only;omega)
     ·rcases List.mem_cons.1 hv with rfl | hv
      ·exact hz
      ·exact hB v hv
     ·dsimp only
      rw [ZeR d3 n1]
      simp
    ·refine Zj (fun hgt=>?_) (fun hle=>?_)
     ·have hA0:A≠[]:=fun h=>by rw [h] at hj;simp only [List.length_nil] at hj;omega
      obtain ⟨A',z,hAz⟩:∃ A' z,A=A' ++ [z]:=⟨A.dropLast,A.getLast hA0,(List.dropLast_concat_getLast hA0).symm⟩
      have lA:A.length=A'.length+1:=by rw [hAz];simp
      have e1:w64 (j - 1)=j - 1:=Zeh (by omega) (by omega) (by omega) (by omega)
      have d1:l2=(P++A')++z::(y::B++U2++S):=by rw [hl2,hAz];simp
      have d2:l2=(P++A' ++ [z])++y::(B++U2++S):=by rw [hl2,hAz];simp
      have n1:j - 1=((P++A').length:Int):=by simp only [List.length_append];omega
      have n2:j=((P++A' ++ [z]).length:Int):=by simp only [List.length_append,List.length_singleton];omega
      rw [e1]
      refine Zb (Zbc d2 n2) (Zb (Zbc d1 n1) (Zb (Znk y z) ?_))
      by_cases hc:ZdL y z<0
      ·rw [decide_eq_true hc]
       exact hq.2 A' z hAz (ZkA hc)
      ·rw [decide_eq_false hc]
       refine hq.1 ?_
       rw [hAB,hAz] at hsorted
       rw [hAz]
       exact Zta (List.pairwise_append.1 hsorted).1 (ZhY hc)
     ·refine hq.1 fun v hv=>?_
      have:A = []:=List.eq_nil_of_length_eq_zero (by omega)
      rw [this] at hv
      cases hv
   ·have z:U2 = []:=List.eq_nil_of_length_eq_zero (by omega)
    subst z
    rw [List.append_nil] at hU
    refine Zd ?_
    rw [hl,hU,List.append_nil]
theorem Zsf {α:Type} {l:List α} {n:Nat} (h:n<l.length):∃ A x B,l=A++x::B∧A.length=n:=⟨l.take n,l[n],l.drop (n+1),by rw [← List.drop_eq_getElem_cons h,List.take_append_drop],by rw [List.length_take];omega⟩
theorem Zm6 {β:Type} {s:Int} {f:Int→Option β} {R:β→Prop} (h0:0≤s) (h1:s≤10000000) (k:∀ q:Int,q=s / 2→IntKind.wrap .i64 q=q→Tot (f q) R):Tot ((ZrL .u64 (IntKind.wrap .u64 s) 1).bind f) R:=by
 have e:IntKind.wrap .u64 s=s:=by
  rw [IntKind.wrap_u64]
  omega
 rw [e]
 refine Zq0 (by decide) (k _ ?_ ?_)
 ·show s.fdiv 2=s / 2
  exact Int.fdiv_eq_ediv_of_nonneg _ (by decide)
 ·show IntKind.wrap .i64 (s.fdiv 2)=s.fdiv 2
  rw [Int.fdiv_eq_ediv_of_nonneg _ (by decide),IntKind.wrap_i64]
  omega
abbrev Srt (l:List Memb):Prop:=l.Pairwise fun a b=>leM a b=true
theorem Zpc {A B:List Memb} {z:Memb} (h:Srt (A++z::B)):(∀ v ∈ A,leM v z=true)∧∀ v ∈ B,leM z v=true:=by
 have h1:=List.pairwise_append.1 h
 exact ⟨fun v hv=>h1.2.2 v hv z (by simp),fun v hv=>(List.pairwise_cons.1 h1.2.1).1 v hv⟩
theorem Zra (f:Nat) (P V S:List Memb) (x:Memb) (hV:Srt V) (hL:(P ++ [x]++V++S).length≤1000000) (a m b:Int) (ha:a=(P.length:Int)) (hm:m=((P ++ [x]).length:Int)) (hb:b=((P ++ [x]++V).length:Int)) :
  Zl (f+1) (P ++ [x]++V++S) a m b=some (P++ZZ leM [x] V++S):=by
 simp only [List.length_append,List.length_singleton] at hL hm hb
 refine Zay ?_
 unfold Zl
 rw [show w64 (m - a)=1 by rw [Zeh (by omega) (by omega) (by omega) (by omega)];omega]
 refine Zj (fun _=>?_) fun h=>absurd rfl h
 refine Zac (fun q=>∃ C1 C C2:List Memb,V=C1++C++C2∧q.1=m+(C1.length:Int)∧q.2=m+(C1.length:Int)+(C.length:Int)∧(∀ v ∈ C1,leM x v=false)∧∀ v ∈ C2,leM x v=true) (fun q=>(q.2 - q.1).toNat) ⟨[],V,[],by simp,by simp,by simp;omega,by simp,by simp⟩ (by dsimp only;omega) ?_
 rintro ⟨i,j⟩ rec ⟨C1,C,C2,hC,hi,hj,h1,h2⟩ ih
 dsimp only at hi hj ih ⊢
 have lC:V.length=C1.length+C.length+C2.length:=by rw [hC];simp only [List.length_append]
 refine Zj (fun hlt=>?_) (fun hge=>?_)
 ·rw [Zex (by omega) (by omega) (by omega) (by omega)]
  refine Zm6 (by omega) (by omega) fun q hq hw=>?_
  rw [hw]
  obtain ⟨M1,z,M2,hM,lM⟩:=Zsf (l:=C) (n:=(q - i).toNat) (by omega)
  have lM2:C.length=M1.length+1+M2.length:=by rw [hM];simp only [List.length_append,List.length_cons];omega
  have hz:V=(C1++M1)++z::(M2++C2):=by rw [hC,hM];simp
  rw [hz] at hV
  obtain ⟨s1,s2⟩:=Zpc hV
  have d1:P ++ [x]++V++S=(P ++ [x]++C1++M1)++z::(M2++C2++S):=by rw [hz];simp
  have d2:P ++ [x]++V++S=P++x::(V++S):=by simp
  refine Zb (Zbc d1 (by simp only [List.length_append,List.length_singleton];omega)) (Zb (Zbc d2 ha) (Zb (Znk z x) ?_))
  refine Zj (fun hc=>?_) (fun hc=>?_)
  ·rw [Zex (by omega) (by omega) (by omega) (by omega)]
   refine ih _ ⟨C1++M1 ++ [z],M2,C2,by rw [hz];simp,by dsimp only;simp only [List.length_append,List.length_singleton];omega,by dsimp only;simp only [List.length_append,List.length_singleton];omega,fun v hv=>?_,h2⟩ (by dsimp only;omega)
   have hxz:=ZkA hc
   rcases List.mem_append.1 hv with hv | hv
   ·cases h:leM x v with
    | false=>rfl
    | true=>rw [Zbk _ _ _ h (s1 v hv)] at hxz;cases hxz
   ·rw [List.mem_singleton.1 hv];exact hxz
  ·refine ih _ ⟨C1,M1,z::M2++C2,by rw [hz];simp,by dsimp only;omega,by dsimp only;omega,h1,fun v hv=>?_⟩ (by dsimp only;omega)
   have hxz:=ZhY hc
   rcases List.mem_cons.1 (show v ∈ z::(M2++C2) from hv) with rfl | hv
   ·exact hxz
   ·exact Zbk _ _ _ hxz (s2 v hv)
 ·have z:C = []:=List.eq_nil_of_length_eq_zero (by omega)
  subst z
  rw [List.append_nil] at hC
  simp only [List.length_nil] at hj lC
  have hres:ZZ leM [x] V=C1++x::C2:=by rw [hC];exact Zl9 h2 h1
  rw [Zeh (by omega) (by omega) (by omega) (by omega)]
  refine Zac (fun q=>∃ D1 D2:List Memb,C1=D1++D2∧q.1=a+(D1.length:Int)∧q.2=P++D1++x::D2++C2++S) (fun q=>(i - q.1).toNat) ⟨[],C1,rfl,by simp,by simp [hC]⟩ (by dsimp only;omega) ?_
  rintro ⟨k,l⟩ rec2 ⟨D1,D2,hD,hk,hl⟩ ih2
  dsimp only at hk hl ih2 ⊢
  have lD:C1.length=D1.length+D2.length:=by rw [hD];simp only [List.length_append]
  refine Zj (fun hlt=>?_) (fun hge=>?_)
  ·obtain ⟨y,D2,rfl⟩:∃ y D',D2=y::D':=by
    cases D2 with
    | nil=>simp only [List.length_nil] at lD;omega
    | cons y D'=>exact ⟨y,D',rfl⟩
   simp only [List.length_cons] at lD
   have d1:l=(P++D1)++x::(y::D2++C2++S):=by rw [hl];simp
   have d2:l=(P++D1 ++ [x])++y::(D2++C2++S):=by rw [hl];simp
   have n1:k=((P++D1).length:Int):=by simp only [List.length_append];omega
   have n2:k+1=((P++D1 ++ [x]).length:Int):=by simp only [List.length_append,List.length_singleton];omega
   have d3:ZeK l k y=(P++D1 ++ [y])++y::(D2++C2++S):=by rw [ZeR d1 n1];simp
   have n3:k+1=((P++D1 ++ [y]).length:Int):=by rw [n2];simp
   rw [Zex (by omega) (by omega) (by omega) (by omega)]
   refine Zb (Zbc d2 n2) (Zb (Zbc d1 n1) (Zb (Zbc d1 n1) (Zb (Zbc d3 n3) ?_)))
   refine ih2 _ ⟨D1 ++ [y],D2,by rw [hD];simp,by dsimp only;simp only [List.length_append,List.length_singleton];omega,?_⟩ (by dsimp only;omega)
   dsimp only
   rw [ZeR d3 n3]
   simp
  ·have z2:D2 = []:=List.eq_nil_of_length_eq_zero (by omega)
   subst z2
   refine Zd ?_
   rw [hl,hres,hD]
   simp
theorem Zpd (f:Nat) (P U S:List Memb) (y:Memb) (hU:Srt U) (hU1:¬ U.length=1) (hL:(P++U ++ [y]++S).length≤1000000) (a m b:Int) (ha:a=(P.length:Int)) (hm:m=((P++U).length:Int)) (hb:b=((P++U ++ [y]).length:Int)) :
  Zl (f+1) (P++U ++ [y]++S) a m b=some (P++ZZ leM U [y]++S):=by
 simp only [List.length_append,List.length_singleton] at hL hm hb
 refine Zay ?_
 unfold Zl
 rw [show w64 (m - a)=(U.length:Int) by rw [Zeh (by omega) (by omega) (by omega) (by omega)];omega,show w64 (b - m)=1 by rw [Zeh (by omega) (by omega) (by omega) (by omega)];omega]
 refine Zj (fun h=>absurd h (by omega)) fun _=>?_
 refine Zj (fun _=>?_) fun h=>absurd rfl h
 refine Zac (fun q=>∃ C1 C C2:List Memb,U=C1++C++C2∧q.1=a+(C1.length:Int)∧q.2=a+(C1.length:Int)+(C.length:Int)∧(∀ v ∈ C1,leM v y=true)∧∀ v ∈ C2,leM v y=false) (fun q=>(q.2 - q.1).toNat) ⟨[],U,[],by simp,by simp,by simp;omega,by simp,by simp⟩ (by dsimp only;omega) ?_
 rintro ⟨i,j⟩ rec ⟨C1,C,C2,hC,hi,hj,h1,h2⟩ ih
 dsimp only at hi hj ih ⊢
 have lC:U.length=C1.length+C.length+C2.length:=by rw [hC];simp only [List.length_append]
 refine Zj (fun hlt=>?_) (fun hge=>?_)
 ·rw [Zex (by omega) (by omega) (by omega) (by omega)]
  refine Zm6 (by omega) (by omega) fun q hq hw=>?_
  rw [hw]
  obtain ⟨M1,z,M2,hM,lM⟩:=Zsf (l:=C) (n:=(q - i).toNat) (by omega)
  have lM2:C.length=M1.length+1+M2.length:=by rw [hM];simp only [List.length_append,List.length_cons];omega
  have hz:U=(C1++M1)++z::(M2++C2):=by rw [hC,hM];simp
  rw [hz] at hU
  obtain ⟨s1,s2⟩:=Zpc hU
  have d1:P++U ++ [y]++S=(P++C1++M1)++z::(M2++C2 ++ [y]++S):=by rw [hz];simp
  have d2:P++U ++ [y]++S=(P++U)++y::S:=by simp
  refine Zb (Zbc d2 (by simp only [List.length_append];omega)) (Zb (Zbc d1 (by simp only [List.length_append];omega)) (Zb (Znk y z) ?_))
  by_cases hc:ZdL y z<0
  ·rw [decide_eq_true hc]
   refine ZG (fun h=>by cases h) fun _=>?_
   refine ih _ ⟨C1,M1,z::M2++C2,by rw [hz];simp,by dsimp only;omega,by dsimp only;omega,h1,fun v hv=>?_⟩ (by dsimp only;omega)
   have hxz:=ZkA hc
   rcases List.mem_cons.1 (show v ∈ z::(M2++C2) from hv) with rfl | hv
   ·exact hxz
   ·cases h:leM v y with
    | false=>rfl
    | true=>rw [Zbk _ _ _ (s2 v hv) h] at hxz;cases hxz
  ·rw [decide_eq_false hc]
   refine ZG (fun _=>?_) fun h=>by cases h
   rw [Zex (by omega) (by omega) (by omega) (by omega)]
   refine ih _ ⟨C1++M1 ++ [z],M2,C2,by rw [hz];simp,by dsimp only;simp only [List.length_append,List.length_singleton];omega,by dsimp only;simp only [List.length_append,List.length_singleton];omega,fun v hv=>?_,h2⟩ (by dsimp only;omega)
   have hxz:=ZhY hc
   rcases List.mem_append.1 hv with hv | hv
   ·exact Zbk _ _ _ (s1 v hv) hxz
   ·rw [List.mem_singleton.1 hv];exact hxz
 ·have z:C = []:=List.eq_nil_of_length_eq_zero (by omega)
  subst z
  rw [List.append_nil] at hC
  simp only [List.length_nil] at hj lC
  have hres:ZZ leM U [y]=C1++y::C2:=by rw [hC];exact Zia h1 h2
  refine Zac (fun q=>∃ D1 D2:List Memb,C2=D1++D2∧q.1=a+(C1.length:Int)+(D1.length:Int)∧q.2=P++C1++D1++y::D2++S) (fun q=>q.1.toNat) ⟨C2,[],by simp,by dsimp only;omega,by simp [hC]⟩ (by dsimp only;omega) ?_
  rintro ⟨k,l⟩ rec2 ⟨D1,D2,hD,hk,hl⟩ ih2
  dsimp only at hk hl ih2 ⊢
  have lD:C2.length=D1.length+D2.length:=by rw [hD];simp only [List.length_append]
  refine Zj (fun hlt=>?_) (fun hge=>?_)
  ·have hD0:D1≠[]:=fun h=>by rw [h] at hk;simp only [List.length_nil] at hk;omega
   obtain ⟨D',x,hDx⟩:∃ A' z,D1=A' ++ [z]:=⟨D1.dropLast,D1.getLast hD0,(List.dropLast_concat_getLast hD0).symm⟩
   have lA:D1.length=D'.length+1:=by rw [hDx];simp
   have d1:l=(P++C1++D')++x::(y::D2++S):=by rw [hl,hDx];simp
   have d2:l=(P++C1++D' ++ [x])++y::(D2++S):=by rw [hl,hDx];simp
   have n1:k - 1=((P++C1++D').length:Int):=by simp only [List.length_append];omega
   have n2:k=((P++C1++D' ++ [x]).length:Int):=by simp only [List.length_append,List.length_singleton];omega
   have d3:ZeK l k x=(P++C1++D')++x::(x::(D2++S)):=by rw [ZeR d2 n2];simp
   rw [Zeh (by omega) (by omega) (by omega) (by omega)]
   refine Zb (Zbc d1 n1) (Zb (Zbc d2 n2) (Zb (Zbc d2 n2) (Zb (Zbc d3 n1) ?_)))
   refine ih2 _ ⟨D',x::D2,by rw [hD,hDx];simp,by dsimp only;omega,?_⟩ (by dsimp only;omega)
   dsimp only
   rw [ZeR d3 n1]
   simp
  ·have z2:D1 = []:=List.eq_nil_of_length_eq_zero (by omega)
   subst z2
   refine Zd ?_
   rw [hl,hres,hD]
   simp
theorem Zhh {A B:List Memb} (h:Srt (A++B)):Srt A∧Srt B:=⟨(List.pairwise_append.1 h).1,(List.pairwise_append.1 h).2.1⟩
structure Part (U V A B C D:List Memb):Prop where
 u:U=A++B
 v:V=C++D
 l:∀ u ∈ A,∀ v ∈ D,leM u v=true
 r:∀ v ∈ C,∀ u ∈ B,leM u v=false
theorem Ztj {U V:List Memb} (hU:Srt U) (hV:Srt V) (i k:Nat) (hi:i≤U.length) (hk:k≤V.length) (h1:i=0∨k=V.length∨∃ u v,U[i - 1]? = some u∧V[k]? = some v∧leM u v=true) (h2:i=U.length∨k=0∨∃ u v,U[i]? = some u∧V[k - 1]? = some v∧leM u v=false) :
  Part U V (U.take i) (U.drop i) (V.take k) (V.drop k):=by
 refine ⟨(List.take_append_drop _ _).symm,(List.take_append_drop _ _).symm,fun u hu v hv=>?_,fun v hv u hu=>?_⟩
 ·rcases h1 with rfl | rfl | ⟨x,y,hx,hy,hxy⟩
  ·simp at hu
  ·simp at hv
  ·have e1:U.take i=U.take (i - 1) ++ [x]:=by
    have hlt:=(List.getElem?_eq_some_iff.1 hx).1
    cases i with
    | zero=>simp at hu
    | succ i=>
      rw [List.take_add_one]
      simp only [Nat.add_sub_cancel] at hx ⊢
      rw [hx]
      rfl
   have e2:V.drop k=y::V.drop (k+1):=by
    obtain ⟨hlt,he⟩:=List.getElem?_eq_some_iff.1 hy
    rw [List.drop_eq_getElem_cons hlt,he]
   have a1:leM u x=true∨u=x:=by
    rw [e1] at hu
    rcases List.mem_append.1 hu with hu | hu
    ·have s:=(Zhh (A:=U.take i) (B:=U.drop i) (by rw [List.take_append_drop];exact hU)).1
     rw [e1] at s
     exact .inl ((List.pairwise_append.1 s).2.2 u hu x (by simp))
    ·exact .inr (List.mem_singleton.1 hu)
   have a2:leM y v=true∨v=y:=by
    rw [e2] at hv
    rcases List.mem_cons.1 hv with hv | hv
    ·exact .inr hv
    ·have s:=(Zhh (A:=V.take k) (B:=V.drop k) (by rw [List.take_append_drop];exact hV)).2
     rw [e2] at s
     exact .inl ((List.pairwise_cons.1 s).1 v hv)
   have a3:leM u y=true:=by
    rcases a1 with a1 | rfl
    ·exact Zbk _ _ _ a1 hxy
    ·exact hxy
   rcases a2 with a2 | rfl
   ·exact Zbk _ _ _ a3 a2
   ·exact a3
 ·rcases h2 with rfl | rfl | ⟨x,y,hx,hy,hxy⟩
  ·simp at hu
  ·simp at hv
  ·have e1:U.drop i=x::U.drop (i+1):=by
    obtain ⟨hlt,he⟩:=List.getElem?_eq_some_iff.1 hx
    rw [List.drop_eq_getElem_cons hlt,he]
   have e2:V.take k=V.take (k - 1) ++ [y]:=by
    cases k with
    | zero=>simp at hv
    | succ k=>
      rw [List.take_add_one]
      simp only [Nat.add_sub_cancel] at hy ⊢
      rw [hy]
      rfl
   have a1:leM x u=true∨u=x:=by
    rw [e1] at hu
    rcases List.mem_cons.1 hu with hu | hu
    ·exact .inr hu
    ·have s:=(Zhh (A:=U.take i) (B:=U.drop i) (by rw [List.take_append_drop];exact hU)).2
     rw [e1] at s
     exact .inl ((List.pairwise_cons.1 s).1 u hu)
   have a2:leM v y=true∨v=y:=by
    rw [e2] at hv
    rcases List.mem_append.1 hv with hv | hv
    ·have s:=(Zhh (A:=V.take k) (B:=V.drop k) (by rw [List.take_append_drop];exact hV)).1
     rw [e2] at s
     exact .inl ((List.pairwise_append.1 s).2.2 v hv y (by simp))
    ·exact .inr (List.mem_singleton.1 hv)
   cases h:leM u v with
   | false=>rfl
   | true=>
     exfalso
     have b1:leM x v=true:=by
      rcases a1 with a1 | rfl
      ·exact Zbk _ _ _ a1 h
      ·exact h
     have b2:leM x y=true:=by
      rcases a2 with a2 | rfl
      ·exact Zbk _ _ _ b1 a2
      ·exact b1
     rw [hxy] at b2
     cases b2
theorem Zuz {P U V S:List Memb} {i:Nat} {u:Memb} (h:U[i]? = some u):∃ A B,P++U++V++S=A++u::B∧A.length=P.length+i:=by
 obtain ⟨hl,he⟩:=List.getElem?_eq_some_iff.1 h
 refine ⟨P++U.take i,U.drop (i+1)++V++S,?_,by rw [List.length_append,List.length_take];omega⟩
 have:U=U.take i++u::U.drop (i+1):=by rw [← he,← List.drop_eq_getElem_cons hl,List.take_append_drop]
 conv=>lhs;rw [this]
 simp
theorem ZuA {P U V S:List Memb} {i:Nat} {v:Memb} (h:V[i]? = some v):∃ A B,P++U++V++S=A++v::B∧A.length=P.length+U.length+i:=by
 obtain ⟨hl,he⟩:=List.getElem?_eq_some_iff.1 h
 refine ⟨P++U++V.take i,V.drop (i+1)++S,?_,by rw [List.length_append,List.length_append,List.length_take];omega⟩
 have:V=V.take i++v::V.drop (i+1):=by rw [← he,← List.drop_eq_getElem_cons hl,List.take_append_drop]
 conv=>lhs;rw [this]
 simp
theorem ZrZ:∀ (f:Nat) (P U V S:List Memb) (_:Srt U) (_:Srt V) (_:0<U.length) (_:0<V.length) (_:(P++U++V++S).length≤1000000) (_:U.length+V.length≤2 ^ f) (a m b:Int) (_:a=(P.length:Int)) (_:m=((P++U).length:Int)) (_:b=((P++U++V).length:Int)),
  Zl f (P++U++V++S) a m b=some (P++ZZ leM U V++S)
 | 0,P,U,V,S,_,_,hU0,hV0,_,hf,_,_,_,_,_,_=>by simp at hf;omega
 | f+1,P,U,V,S,hU,hV,hU0,hV0,hL,hf,a,m,b,ha,hm,hb=>by
   by_cases hU1:U.length=1
   ·obtain ⟨x,rfl⟩:=List.length_eq_one_iff.1 hU1
    exact Zra f P V S x hV hL a m b ha hm hb
   by_cases hV1:V.length=1
   ·obtain ⟨y,rfl⟩:=List.length_eq_one_iff.1 hV1
    exact Zpd f P U S y hU hU1 hL a m b ha hm hb
   simp only [List.length_append] at hL hm hb
   refine Zay ?_
   unfold Zl
   rw [show w64 (m - a)=(U.length:Int) by rw [Zeh (by omega) (by omega) (by omega) (by omega)];omega,show w64 (b - m)=(V.length:Int) by rw [Zeh (by omega) (by omega) (by omega) (by omega)];omega]
   refine Zj (fun h=>absurd h (by omega)) fun _=>Zj (fun h=>absurd h (by omega)) fun _=>?_
   rw [Zex (by omega) (by omega) (by omega) (by omega)]
   refine Zm6 (by omega) (by omega) fun mid hmid hw=>?_
   rw [hw]
   have en:w64 (mid+m)=mid+m:=Zex (by omega) (by omega) (by omega) (by omega)
   rw [en]
   have tail:∀ (s:Int) (A B C D:List Memb),Part U V A B C D→s=(P.length:Int)+(A.length:Int)→mid+m - s=(P.length:Int)+(U.length:Int)+(C.length:Int)→Tot (letk (fun (x352:Bool)=>
     letk (fun (x354:List Memb)=>
      letk (fun (x355:Bool)=>
       letk (fun (x357:List Memb)=>
        letk (fun (x358:Bool)=>
         if x358 then
          (Zl f x357 mid (mid+m - s) b).bind fun r359=>
          (some r359:Option (List Memb))
         else
         (some x357:Option (List Memb))) fun k24=>
        if (decide (mid<mid+m - s)) then
         k24 (decide (mid+m - s<b))
        else
        k24 false) fun k23=>
       if x355 then
        (Zl f x354 a s mid).bind fun r360=>
        k23 r360
       else
       k23 x354) fun k22=>
      if (decide (a<s)) then
       k22 (decide (s<mid))
      else
      k22 false) fun k21=>
     if x352 then
      (ZJ (P++U++V++S) s m (mid+m - s)).bind fun r361=>
      k21 r361
     else
     k21 (P++U++V++S)) fun k20=>
    if (decide (s<m)) then
     k20 (decide (m<mid+m - s))
    else
    k20 false) fun r=>r=P++ZZ leM U V++S:=by
    intro s A B C D hp hs he
    have lU:U.length=A.length+B.length:=by rw [hp.u,List.length_append]
    have lV:V.length=C.length+D.length:=by rw [hp.v,List.length_append]
    have hsU:=Zhh (by rw [← hp.u];exact hU)
    have hsV:=Zhh (by rw [← hp.v];exact hV)
    have pw:(2:Nat) ^ (f+1)=2 * 2 ^ f:=by rw [Nat.pow_succ,Nat.mul_comm]
    have hfin:P++ZZ leM U V++S=P++ZZ leM A C++ZZ leM B D++S:=by
     rw [hp.u,hp.v,Zb9 A B C D hp.l hp.r]
     simp
    rw [hfin]
    refine Zap (fun q=>∀ t,(t=true→0<B.length∧0<C.length)→(t=false→B = []∨C = [])→Tot (q t) fun r=>r=P++ZZ leM A C++ZZ leM B D++S) (fun t ht1 ht2=>?_) fun q hq=>?_
    ·
     refine Zap (fun q=>Tot (q (P++A++C++B++D++S)) fun r=>r=P++ZZ leM A C++ZZ leM B D++S) ?_ fun q hq=>?_
     ·refine Zap (fun q=>∀ t,(t=true→0<A.length∧0<C.length)→(t=false→A = []∨C = [])→Tot (q t) fun r=>r=P++ZZ leM A C++ZZ leM B D++S) (fun t ht1 ht2=>?_) fun q hq=>?_
      ·
       refine Zap (fun q=>Tot (q (P++ZZ leM A C++B++D++S)) fun r=>r=P++ZZ leM A C++ZZ leM B D++S) ?_ fun q hq=>?_
       ·refine Zap (fun q=>∀ t,(t=true→0<B.length∧0<D.length)→(t=false→B = []∨D = [])→Tot (q t) fun r=>r=P++ZZ leM A C++ZZ leM B D++S) (fun t ht1 ht2=>?_) fun q hq=>?_
        ·refine ZG (fun h=>?_) fun h=>?_
         ·obtain ⟨b1,b2⟩:=ht1 h
          have hl:=Zos (le:=leM) A C
          refine Zb (ZrZ f (P++ZZ leM A C) B D S hsU.2 hsV.2 b1 b2 (by simp only [List.length_append];omega) (by omega) mid (mid+m - s) b (by simp only [List.length_append];omega) (by simp only [List.length_append];omega) (by simp only [List.length_append];omega)) (Zd rfl)
         ·refine Zd ?_
          rcases ht2 h with rfl | rfl
          ·show _=P++ZZ leM A C++D++S
           simp
          ·rw [ZbF];simp
        ·refine Zj (fun h=>?_) fun h=>?_
         ·by_cases h2:mid+m - s<b
          ·rw [decide_eq_true h2]
           exact hq true (fun _=>by omega) fun h=>by cases h
          ·rw [decide_eq_false h2]
           exact hq false (fun h=>by cases h) fun _=>.inr (List.eq_nil_of_length_eq_zero (by omega))
         ·exact hq false (fun h=>by cases h) fun _=>.inl (List.eq_nil_of_length_eq_zero (by omega))
       ·refine ZG (fun h=>?_) fun h=>?_
        ·obtain ⟨b1,b2⟩:=ht1 h
         have e:P++A++C++B++D++S=P++A++C++(B++D++S):=by simp
         rw [e]
         refine Zb (ZrZ f P A C (B++D++S) hsU.1 hsV.1 b1 b2 (by simp only [List.length_append];omega) (by omega) a s mid ha (by simp only [List.length_append];omega) (by simp only [List.length_append];omega)) ?_
         have e2:P++ZZ leM A C++(B++D++S)=P++ZZ leM A C++B++D++S:=by simp
         rw [e2]
         exact hq
        ·have e:P++A++C++B++D++S=P++ZZ leM A C++B++D++S:=by
          rcases ht2 h with rfl | rfl
          ·show _=P++C++B++D++S
           simp
          ·rw [ZbF];simp
         rw [e]
         exact hq
      ·refine Zj (fun h=>?_) fun h=>?_
       ·by_cases h2:s<mid
        ·rw [decide_eq_true h2]
         exact hq true (fun _=>by omega) fun h=>by cases h
        ·rw [decide_eq_false h2]
         exact hq false (fun h=>by cases h) fun _=>.inr (List.eq_nil_of_length_eq_zero (by omega))
       ·exact hq false (fun h=>by cases h) fun _=>.inl (List.eq_nil_of_length_eq_zero (by omega))
     ·refine ZG (fun h=>?_) fun h=>?_
      ·obtain ⟨b1,b2⟩:=ht1 h
       have e:P++U++V++S=(P++A)++B++C++(D++S):=by rw [hp.u,hp.v];simp
       rw [e]
       refine Zb (ZrI (P++A) B C (D++S) b1 b2 (by simp only [List.length_append];omega) s m (mid+m - s) (by simp only [List.length_append];omega) (by simp only [List.length_append];omega) (by simp only [List.length_append];omega)) ?_
       have e2:(P++A)++C++B++(D++S)=P++A++C++B++D++S:=by simp
       rw [e2]
       exact hq
      ·have e:P++U++V++S=P++A++C++B++D++S:=by
        rw [hp.u,hp.v]
        rcases ht2 h with rfl | rfl<;>simp
       rw [e]
       exact hq
    ·refine Zj (fun h=>?_) fun h=>?_
     ·by_cases h2:m<mid+m - s
      ·rw [decide_eq_true h2]
       exact hq true (fun _=>by omega) fun h=>by cases h
      ·rw [decide_eq_false h2]
       exact hq false (fun h=>by cases h) fun _=>.inr (List.eq_nil_of_length_eq_zero (by omega))
     ·exact hq false (fun h=>by cases h) fun _=>.inl (List.eq_nil_of_length_eq_zero (by omega))
   refine Zap (fun q=>∀ lo hi:Int,lo≤hi→a≤lo→hi≤m→hi≤mid∨hi=m→(lo=a∧m≤mid∧hi=m∨lo=mid+m - b∧mid<m∧hi=mid)→Tot (q lo hi) fun r=>r=P++ZZ leM U V++S) (fun lo hi hlh hlo hhi hhm hcase=>?_) fun q hq=>?_
   ·refine Zac (fun x=>lo≤x.1∧x.1≤x.2∧x.2≤hi∧(x.1=lo∨∃ u v,U[(x.1 - 1 - a).toNat]? = some u∧V[(mid - x.1).toNat]? = some v∧leM u v=true)∧(x.2=hi∨∃ u v,U[(x.2 - a).toNat]? = some u∧V[(mid - 1 - x.2).toNat]? = some v∧leM u v=false)) (fun x=>(x.2 - x.1).toNat) ⟨Int.le_refl _,hlh,Int.le_refl _,.inl rfl,.inl rfl⟩ (by dsimp only;omega) ?_
    rintro ⟨st,r⟩ rec ⟨k1,k2,k3,k4,k5⟩ ih
    dsimp only at k1 k2 k3 k4 k5 ih ⊢
    refine Zj (fun hlt=>?_) fun hge=>?_
    ·rw [Zex (by omega) (by omega) (by omega) (by omega)]
     refine Zm6 (by omega) (by omega) fun c hc hwc=>?_
     rw [hwc]
     have c1:(c - a).toNat<U.length:=by omega
     have c2:(mid - 1 - c).toNat<V.length:=by omega
     obtain ⟨A1,B1,d1,n1⟩:=Zuz (P:=P) (U:=U) (V:=V) (S:=S) (List.getElem?_eq_getElem c1)
     obtain ⟨A2,B2,d2,n2⟩:=ZuA (P:=P) (U:=U) (V:=V) (S:=S) (List.getElem?_eq_getElem c2)
     rw [show w64 (mid+m - 1)=mid+m - 1 from Zeh (by omega) (by omega) (by omega) (by omega),show w64 (mid+m - 1 - c)=mid+m - 1 - c from Zeh (by omega) (by omega) (by omega) (by omega)]
     refine Zb (Zbc d2 (by omega)) (Zb (Zbc d1 (by omega)) (Zb (Znk _ _) ?_))
     by_cases hcm:ZdL V[(mid - 1 - c).toNat] U[(c - a).toNat]<0
     ·rw [decide_eq_true hcm]
      refine ZG (fun h=>by cases h) fun _=>?_
      exact ih _ ⟨k1,by dsimp only;omega,by dsimp only;omega,k4,.inr ⟨_,_,List.getElem?_eq_getElem c1,List.getElem?_eq_getElem c2,ZkA hcm⟩⟩ (by dsimp only;omega)
     ·rw [decide_eq_false hcm]
      refine ZG (fun _=>?_) fun h=>by cases h
      rw [Zex (by omega) (by omega) (by omega) (by omega)]
      refine ih _ ⟨by dsimp only;omega,by dsimp only;omega,k3,.inr ⟨_,_,?_,?_,ZhY hcm⟩,k5⟩ (by dsimp only;omega)
      ·dsimp only
       rw [show (c+1 - 1 - a).toNat=(c - a).toNat by omega]
       exact List.getElem?_eq_getElem c1
      ·dsimp only
       rw [show (mid - (c+1)).toNat=(mid - 1 - c).toNat by omega]
       exact List.getElem?_eq_getElem c2
    ·obtain rfl:st=r:=by omega
     have e2:w64 (mid+m - st)=mid+m - st:=Zeh (by omega) (by omega) (by omega) (by omega)
     rw [e2]
     refine tail st _ _ _ _ (Ztj hU hV (st - a).toNat (mid - st).toNat (by omega) (by omega) ?_ ?_) ?_ ?_
     ·rcases k4 with rfl | ⟨u,v,q1,q2,q3⟩
      ·rcases hcase with h | h
       ·exact .inl (by omega)
       ·exact .inr (.inl (by omega))
      ·exact .inr (.inr ⟨u,v,by rw [show (st - a).toNat - 1=(st - 1 - a).toNat by omega];exact q1,q2,q3⟩)
     ·rcases k5 with rfl | ⟨u,v,q1,q2,q3⟩
      ·rcases hcase with h | h
       ·exact .inl (by omega)
       ·exact .inr (.inl (by omega))
      ·exact .inr (.inr ⟨u,v,q1,by rw [show (mid - st).toNat - 1=(mid - 1 - st).toNat by omega];exact q2,q3⟩)
     ·rw [List.length_take]
      omega
     ·rw [List.length_take]
      omega
   ·refine Zj (fun h=>?_) fun h=>?_
    ·rw [Zeh (by omega) (by omega) (by omega) (by omega)]
     exact hq _ _ (by omega) (by omega) (by omega) (.inl (by omega)) (.inr ⟨rfl,h,rfl⟩)
    ·exact hq _ _ (by omega) (by omega) (by omega) (.inr rfl) (.inl ⟨rfl,by omega,rfl⟩)
def sbk (n:Nat) (L:List Memb):List Memb:=if _h:0<n∧n≤L.length then Zae leM (L.take n)++sbk n (L.drop n) else Zae leM L
 termination_by L.length
 decreasing_by rw [List.length_drop];omega
theorem Zhm {n:Nat} {L:List Memb} (h0:0<n) (h:n≤L.length):sbk n L=Zae leM (L.take n)++sbk n (L.drop n):=by
 rw [sbk,dif_pos ⟨h0,h⟩]
theorem Zgi {n:Nat} {L:List Memb} (h:L.length≤n):sbk n L=Zae leM L:=by
 rw [sbk]
 split
 ·rename_i h1
  have:n=L.length:=by omega
  rw [this,List.take_length,List.drop_length]
  rw [sbk,dif_neg (fun h=>by have h2:=h.1;have h3:=h.2;simp only [List.length_nil] at h3;omega)]
  exact List.append_nil _
 ·rfl
theorem Zqu (n:Nat):∀ (k:Nat) (L:List Memb),L.length≤k→(sbk n L).length=L.length
 | 0,L,h=>by
   rw [Zgi (by omega),ZU]
 | k+1,L,h=>by
   by_cases h1:0<n∧n≤L.length
   ·rw [Zhm h1.1 h1.2,List.length_append,ZU,Zqu n k (L.drop n) (by rw [List.length_drop];omega),List.length_take,List.length_drop]
    omega
   ·rw [sbk,dif_neg h1,ZU]
theorem isrt (L:List Memb):Srt (Zae leM L):=Zfj Zbk Zey L
theorem ZlY (A B:List Memb):ZZ leM (Zae leM A) (Zae leM B)=Zae leM (A++B):=(Zfa Zbk Zey A B).symm
theorem Zr2 (L:List Memb) (hL:L.length≤1000000):ZX L (L.length:Int)=some (Zae leM L):=by
 refine Zay ?_
 unfold ZX
 refine Zac (fun x=>∃ R E:List Memb,x.1=(R.length:Int)∧x.2.1=(R.length:Int)+20∧x.2.2=R++E∧R++sbk 20 E=sbk 20 L∧R.length+E.length=L.length) (fun x=>L.length - x.1.toNat) ⟨[],L,rfl,rfl,rfl,rfl,by simp⟩ (by dsimp only;omega) ?_
 rintro ⟨a,b,l⟩ rec ⟨R,E,ha,hb,hl,hR,hlen⟩ ih
 dsimp only at ha hb hl ih ⊢
 refine Zj (fun hle=>?_) fun hgt=>?_
 ·have h20:20≤E.length:=by omega
  have e:l=R++E.take 20++E.drop 20:=by rw [hl,List.append_assoc,List.take_append_drop]
  have ht:(E.take 20).length=20:=by rw [List.length_take];omega
  rw [e]
  refine Zb (ZtZ R (E.take 20) (E.drop 20) (by rw [← e,hl,List.length_append];omega) a b ha (by rw [List.length_append];omega)) ?_
  rw [Zex (by omega) (by omega) (by omega) (by omega)]
  refine ih _ ⟨R++Zae leM (E.take 20),E.drop 20,by dsimp only;rw [List.length_append,ZU];omega,by dsimp only;rw [List.length_append,ZU];omega,rfl,?_,by rw [List.length_append,ZU,List.length_drop];omega⟩ (by dsimp only;omega)
  rw [← hR,Zhm (by decide) h20,List.append_assoc]
 ·have e:l=R++E ++ []:=by rw [hl,List.append_nil]
  rw [e]
  refine Zb (ZtZ R E [] (by rw [← e,hl,List.length_append];omega) a _ ha (by rw [List.length_append];omega)) ?_
  rw [List.append_nil,← Zgi (n:=20) (L:=E) (by omega),hR]
  clear ih hR e hl ha hb hgt hlen rec
  refine Zac (fun x=>∃ n:Nat,0<n∧n≤2000000∧x.1=(n:Int)∧x.2=sbk n L) (fun x=>2000000 - x.1.toNat) ⟨20,by decide,by decide,rfl,rfl⟩ (by dsimp only;omega) ?_
  rintro ⟨bsz,l⟩ rec ⟨n,hn0,hn1,hbn,hl⟩ ih
  dsimp only at hbn hl ih ⊢
  refine Zj (fun hlt=>?_) fun hge=>?_
  ·have e2:w64 (2 * bsz)=2 * bsz:=ZaH (by omega) (by omega)
   rw [e2]
   refine Zac (fun x=>∃ R E:List Memb,x.1=(R.length:Int)∧x.2.1=(R.length:Int)+2 * (n:Int)∧x.2.2=R++sbk n E∧R++sbk (2 * n) E=sbk (2 * n) L∧R.length+E.length=L.length) (fun x=>L.length - x.1.toNat) ⟨[],L,rfl,by dsimp only;simp;omega,by rw [hl];rfl,rfl,by simp⟩ (by dsimp only;omega) ?_
   rintro ⟨a,b,l2⟩ rec2 ⟨R,E,ha,hb,hl2,hR,hlen⟩ ih2
   dsimp only at ha hb hl2 ih2 ⊢
   have eA:w64 (a+bsz)=a+bsz:=Zex (by omega) (by omega) (by omega) (by omega)
   refine Zj (fun hle=>?_) fun hgt=>?_
   ·have h2n:2 * n≤E.length:=by omega
    have t1:(E.take n).length=n:=by rw [List.length_take];omega
    have t2:((E.drop n).take n).length=n:=by rw [List.length_take,List.length_drop];omega
    have e:l2=R++Zae leM (E.take n)++Zae leM ((E.drop n).take n)++sbk n (E.drop (2 * n)):=by
     rw [hl2,Zhm hn0 (by omega),Zhm hn0 (by rw [List.length_drop];omega),List.drop_drop,show n+n=2 * n by omega]
     simp only [List.append_assoc]
    have hd:(sbk n (E.drop (2 * n))).length=E.length - 2 * n:=by rw [Zqu n _ _ (Nat.le_refl _),List.length_drop]
    rw [eA,e]
    refine Zb (ZrZ 64 R _ _ _ (isrt _) (isrt _) (by rw [ZU];omega) (by rw [ZU];omega) (by simp only [List.length_append,ZU];omega) (by rw [ZU,ZU];omega) a (a+bsz) b ha (by rw [List.length_append,ZU];omega) (by simp only [List.length_append,ZU];omega)) ?_
    have et:E.take n++(E.drop n).take n=E.take (2 * n):=by rw [show 2 * n=n+n by omega,List.take_add]
    rw [ZlY,et,show w64 (b+2 * bsz)=b+2 * bsz from ZaH (by omega) (by omega)]
    have t3:(E.take (2 * n)).length=2 * n:=by rw [List.length_take];omega
    refine ih2 _ ⟨R++Zae leM (E.take (2 * n)),E.drop (2 * n),by dsimp only;rw [List.length_append,ZU];omega,by dsimp only;rw [List.length_append,ZU];omega,rfl,?_,by rw [List.length_append,ZU,List.length_drop];omega⟩ (by dsimp only;omega)
    rw [← hR,Zhm (n:=2 * n) (by omega) h2n,List.append_assoc]
   ·have go:l2=R++sbk (2 * n) E→Tot (rec (w64 (bsz * 2),l2)) fun r=>r=Zae leM L:=fun h=>by
     rw [show w64 (bsz * 2)=bsz * 2 from ZaH (by omega) (by omega)]
     exact ih _ ⟨2 * n,by omega,by omega,by dsimp only;omega,by dsimp only;rw [h,hR]⟩ (by dsimp only;omega)
    refine Zap (fun q=>∀ l3,l3=R++sbk (2 * n) E→Tot (q l3) fun r=>r=Zae leM L) (fun l3 h3=>?_) fun q hq=>?_
    ·rw [show w64 (bsz * 2)=bsz * 2 from ZaH (by omega) (by omega)]
     exact ih _ ⟨2 * n,by omega,by omega,by dsimp only;omega,by dsimp only;rw [h3,hR]⟩ (by dsimp only;omega)
    ·rw [eA]
     refine Zj (fun hlt2=>?_) fun hge2=>?_
     ·have t1:(E.take n).length=n:=by rw [List.length_take];omega
      have t2:(E.drop n).length=E.length - n:=List.length_drop
      have e:l2=R++Zae leM (E.take n)++Zae leM (E.drop n) ++ []:=by
       rw [hl2,Zhm hn0 (by omega),Zgi (n:=n) (L:=E.drop n) (by omega)]
       simp only [List.append_assoc,List.append_nil]
      rw [e]
      refine Zb (ZrZ 64 R _ _ _ (isrt _) (isrt _) (by rw [ZU];omega) (by rw [ZU];omega) (by simp only [List.length_append,ZU,List.length_nil];omega) (by rw [ZU,ZU];omega) a (a+bsz) _ ha (by rw [List.length_append,ZU];omega) (by simp only [List.length_append,ZU];omega)) ?_
      refine hq _ ?_
      rw [ZlY,List.take_append_drop,List.append_nil,Zgi (n:=2 * n) (by omega)]
     ·refine hq _ ?_
      rw [hl2,Zgi (n:=n) (L:=E) (by omega),Zgi (n:=2 * n) (by omega)]
  ·refine Zd ?_
   rw [hl,Zgi (by omega)]
theorem ZlZ (L:List Memb) (hL:L.length≤1000000):ZV L=some (Zae leM L):=by
 unfold ZV
 rw [Zr2 L hL]
 rfl
end Go.Proofs.YtmgfammllddkhaaGreatDoor
namespace Go.Proofs.YtmgfammllddkhaaGreatDoor
open VL
def ZhT {α:Type} (eq:α→α→Option Bool) (z:α) (p0:List α):Option (List α):=
 if (decide ((p0.length:Int)<2)) then
  (some p0:Option (List α))
 else
 Zbf Zdo (fun f82 (x570:Int)=>
  if (decide (x570<(p0.length:Int))) then
   (atI p0 x570).bind fun e784=>
   (atI p0 (w64 (x570 - 1))).bind fun e785=>
   (eq e784 e785).bind fun r=>
   if r then
    (Zok p0 x570).bind fun _=>
    Zbf Zdo (fun f97 ((x830,x831,x832):Int×Int×(List α))=>
     if (decide (x831<(Zto x832 x570))) then
      letk (fun (x847:Int) (x848:List α)=>
       f97 (x847,(w64 (x831+1)),x848)) fun k98=>
      (atQ x832 x570 x831).bind fun e849=>
      (atQ x832 x570 (w64 (x831 - 1))).bind fun e850=>
      (eq e849 e850).bind fun r=>
      if (!r) then
       (atQ x832 x570 x831).bind fun e851=>
       (atI x832 x830).bind fun _=>
       k98 (w64 (x830+1)) (ZeK x832 x830 e851)
      else
      k98 x830 x832
     else
     (Zok x832 x830).bind fun _=>
     (Zsw (ZsG x832 x830 z) 0 x830).bind fun l854=>
     (some l854:Option (List α))) (x570,1,p0)
   else
   f82 (w64 (x570+1))
  else
  (some p0:Option (List α))) 1
def Zcb {α:Type} (eq:α→α→Bool):α→List α→List α
 | _,[]=>[]
 | x,y::l=>if eq y x=true then Zcb eq y l else y::Zcb eq y l
def Zgr {α:Type} (eq:α→α→Bool):List α→List α
 | []=>[]
 | x::l=>x::Zcb eq x l
theorem ZjD {α:Type} {eq:α→α→Bool} (y z:α):∀ (x:α) (A:List α),Zcb eq x (A ++ [z] ++ [y])=Zcb eq x (A ++ [z])++(if eq y z=true then [] else [y])
 | x,[]=>by
   show (if eq z x=true then Zcb eq z [y] else z::Zcb eq z [y])=(if eq z x=true then [] else [z])++_
   have:Zcb eq z [y]=if eq y z=true then [] else [y]:=rfl
   rw [this]
   split<;>rfl
 | x,a::A=>by
   show (if eq a x=true then Zcb eq a (A ++ [z] ++ [y]) else a::Zcb eq a (A ++ [z] ++ [y]))=(if eq a x=true then Zcb eq a (A ++ [z]) else a::Zcb eq a (A ++ [z]))++_
   rw [ZjD y z a A]
   split<;>rfl
theorem ZfB {α:Type} {eq:α→α→Bool} (A:List α) (z y:α):Zgr eq (A ++ [z] ++ [y])=Zgr eq (A ++ [z])++(if eq y z=true then [] else [y]):=by
 cases A with
 | nil=>
   show z::Zcb eq z [y] = [z]++_
   rfl
 | cons a A=>
   show a::Zcb eq a (A ++ [z] ++ [y])=a::Zcb eq a (A ++ [z])++_
   rw [ZjD]
   rfl
theorem Zmk {α:Type} {l A B:List α} {x:α} {q i:Int} (h:l=A++x::B) (h0:0≤q) (h1:0≤i) (hn:q+i=(A.length:Int)):atQ l q i=some x:=by
 unfold atQ
 rw [if_pos ⟨h0,h1⟩]
 exact Zbc h hn
theorem Zlb {α:Type} (eqM:α→α→Option Bool) (eq:α→α→Bool) (heq:∀ a b,eqM a b=some (eq a b)) (z0:α) (L:List α) (hL:L.length≤1000000):ZhT eqM z0 L=some (Zgr eq L):=by
 refine Zay ?_
 unfold ZhT
 refine Zj (fun h=>?_) fun h=>?_
 ·refine Zd ?_
  match L,h with
  | [],_=>rfl
  | [x],_=>rfl
  | x::y::l,h=>simp only [List.length_cons] at h;omega
 ·refine Zac (fun x=>∃ A z B,L=A++z::B∧x=(A.length:Int)+1∧Zgr eq (A ++ [z])=A ++ [z]) (fun x=>L.length - x.toNat) ?_ (by omega) ?_
  ·cases L with
   | nil=>simp only [List.length_nil] at h;omega
   | cons x l=>exact ⟨[],x,l,rfl,rfl,rfl⟩
  rintro k rec ⟨A,z,B,hd,hk,hc⟩ ih
  have lL:L.length=A.length+1+B.length:=by rw [hd];simp only [List.length_append,List.length_cons];omega
  refine Zj (fun hlt=>?_) fun hge=>?_
  ·obtain ⟨y,B,rfl⟩:∃ y B',B=y::B':=by
    cases B with
    | nil=>simp only [List.length_nil] at lL;omega
    | cons y B'=>exact ⟨y,B',rfl⟩
   simp only [List.length_cons] at lL
   have d1:L=(A ++ [z])++y::B:=by rw [hd];simp
   rw [Zeh (by omega) (by omega) (by omega) (by omega)]
   refine Zb (Zbc d1 (by simp only [List.length_append,List.length_singleton];omega)) (Zb (Zbc hd (by omega)) (Zb (heq y z) (ZG (fun hyz=>?_) fun hyz=>?_)))
   ·have hs:Zok L k=some ():=by
     unfold Zok
     rw [if_pos ⟨by omega,by omega⟩]
    refine Zb hs ?_
    refine Zac (fun x=>∃ K J L1 z B,x.2.2=K++J++z::B∧L=L1++z::B∧x.1=(K.length:Int)∧K.length+J.length=L1.length∧1≤x.2.1∧k+x.2.1=(L1.length:Int)+1∧Zgr eq (L1 ++ [z])=K) (fun x=>L.length - x.2.1.toNat)
     ⟨A ++ [z],[],A ++ [z],y,B,by dsimp only;rw [d1];simp,d1,by dsimp only;simp only [List.length_append,List.length_singleton];omega,by simp,by dsimp only;omega,by dsimp only;simp only [List.length_append,List.length_singleton];omega,by rw [ZfB,hc,if_pos hyz,List.append_nil]⟩ (by dsimp only;omega) ?_
    rintro ⟨kd,k2,l⟩ rec2 ⟨K,J,L1,u,C,hl,hLd,hkd,hlen,h1,hk2,hK⟩ ih2
    dsimp only at hl hkd h1 hk2 ih2 ⊢
    have lC:L.length=L1.length+1+C.length:=by rw [hLd];simp only [List.length_append,List.length_cons];omega
    have ll:l.length=L.length:=by rw [hl];simp only [List.length_append,List.length_cons];omega
    have hq:Zto l k=(L.length:Int) - k:=by unfold Zto;rw [ll];omega
    rw [hq]
    refine Zj (fun hlt2=>?_) fun hge2=>?_
    ·obtain ⟨v,C,rfl⟩:∃ v C',C=v::C':=by
      cases C with
      | nil=>simp only [List.length_nil] at lC;omega
      | cons v C'=>exact ⟨v,C',rfl⟩
     simp only [List.length_cons] at lC
     have e1:l=(K++J ++ [u])++v::C:=by rw [hl];simp
     have n1:k+k2=((K++J ++ [u]).length:Int):=by simp only [List.length_append,List.length_singleton];omega
     have n2:k+(k2 - 1)=((K++J).length:Int):=by simp only [List.length_append];omega
     have hLd2:L=(L1 ++ [u])++v::C:=by rw [hLd];simp
     refine ZaL ?_
     rw [Zeh (by omega) (by omega) (by omega) (by omega),Zex (a:=k2) (by omega) (by omega) (by omega) (by omega)]
     refine Zb (Zmk e1 (by omega) (by omega) n1) (Zb (Zmk hl (by omega) (by omega) n2) (Zb (heq v u) ?_))
     cases hvu:eq v u with
     | false=>
       refine ZG (fun _=>?_) fun h=>by cases h
       obtain ⟨w,J2,hJ⟩:∃ w J2,J ++ [u]=w::J2:=by
        cases J with
        | nil=>exact ⟨u,[],rfl⟩
        | cons w J2=>exact ⟨w,J2 ++ [u],rfl⟩
       have lJ:J.length+1=J2.length+1:=by have:=congrArg List.length hJ;simpa using this
       have e2:l=K++w::(J2++v::C):=by rw [e1,List.append_assoc K J [u],hJ];simp
       refine Zb (Zmk e1 (by omega) (by omega) n1) (Zb (Zbc e2 hkd) ?_)
       dsimp only
       rw [Zex (by omega) (by omega) (by omega) (by omega)]
       refine ih2 _ ⟨K ++ [v],J2,L1 ++ [u],v,C,?_,hLd2,by dsimp only;simp only [List.length_append,List.length_singleton];omega,by simp only [List.length_append,List.length_singleton];omega,by dsimp only;omega,by dsimp only;simp only [List.length_append,List.length_singleton];omega,?_⟩ (by dsimp only;omega)
       ·dsimp only
        rw [ZeR e2 hkd]
        simp
       ·rw [ZfB,hK,hvu]
        rfl
     | true=>
       refine ZG (fun h=>by cases h) fun _=>?_
       dsimp only
       refine ih2 _ ⟨K,J ++ [u],L1 ++ [u],v,C,by dsimp only;rw [hl];simp,hLd2,hkd,by simp only [List.length_append,List.length_singleton];omega,by dsimp only;omega,by dsimp only;simp only [List.length_append,List.length_singleton];omega,?_⟩ (by dsimp only;omega)
       rw [ZfB,hK,hvu]
       exact List.append_nil _
    ·have hC:C = []:=List.eq_nil_of_length_eq_zero (by omega)
     subst hC
     have hs2:Zok l kd=some ():=by
      unfold Zok
      rw [if_pos ⟨by omega,by omega⟩]
     refine Zb hs2 ?_
     have hcl:ZsG l kd z0=K++List.replicate (l.length - K.length) z0:=by
      unfold ZsG
      rw [hkd,Int.toNat_natCast,hl]
      congr 1
      rw [List.append_assoc,List.take_left]
     refine Zb (v:=K) ?_ (Zd ?_)
     ·rw [hcl]
      unfold Zsw
      rw [if_pos ⟨by omega,by omega,by rw [hkd,List.length_append];omega⟩,hkd]
      simp
     ·rw [← hK,hLd]
   ·rw [Zex (by omega) (by omega) (by omega) (by omega)]
    refine ih _ ⟨A ++ [z],y,B,d1,by simp only [List.length_append,List.length_singleton];omega,?_⟩ (by omega)
    rw [ZfB,hc,if_neg (by rw [hyz];decide)]
  ·have hB:B = []:=List.eq_nil_of_length_eq_zero (by omega)
   subst hB
   refine Zd ?_
   rw [hd,hc]
theorem Zkl:Zba=ZhT (fun a b=>some (decide (a=b))) ⟨0,⟨0,⟨#[]⟩⟩⟩:=rfl
theorem Zkm:Zaf=ZhT ZdQ ⟨⟨0,⟨#[]⟩⟩,⟨#[]⟩⟩:=rfl
theorem Zkn (L:List Link) (hL:L.length≤1000000):Zba L=some (Zgr (fun a b=>decide (a=b)) L):=by
 rw [Zkl]
 exact Zlb _ _ (fun _ _=>rfl) _ L hL
theorem Zko (L:List Memb) (hL:L.length≤1000000):Zaf L=some (Zgr (fun a b=>decide (a.category=b.category)) L):=by
 rw [Zkm]
 exact Zlb _ _ (fun _ _=>rfl) _ L hL
def ZeX (p0:List Link) (p1:List Link):Option Bool:=
 if (!decide ((p0.length:Int)=(p1.length:Int))) then
  (some false:Option Bool)
 else
 Zbf Zdo (fun f2 (x18:Int)=>
  if (decide (x18<(p0.length:Int))) then
   (atI p0 x18).bind fun e25=>
   (atI p1 x18).bind fun e26=>
   if (!decide (e25=e26)) then
    (some false:Option Bool)
   else
   f2 (w64 (x18+1))
  else
  (some true:Option Bool)) 0
theorem Zi3 (p0:List Link) (p1:List Link) (r:Bool) (h:ZeX p0 p1=some r):Zn Tryz.prog 15 [.sl (List.map Link.cs p0),.sl (List.map Link.cs p1)] (.bool r):=by
 refine cF (fun r=>.bool r) h mix Tryz.func15 fun r h=>?_
 unfold ZeX at h
 refine Zt ?_
 refine rg ?_
 refine rg ?_
 refine lM Link.cs p0 ?_
 refine lM Link.cs p1 ?_
 refine cS h rfl (fun h=>?_) fun h=>?_
 ·refine rg ?_
  cases h
  exact rQ
 refine rg ?_
 refine bl ?_
 refine ZK h fun f2 mf2 hf2 h=>?_
 refine ZE (α:=Nat×Int) (fun a _=>mkS [(0,.sl (List.map Link.cs p0)),(1,.sl (List.map Link.cs p1)),(5,.int .i64 a.2)] [] 2) (fun a=>Zbf a.1 f2 a.2=some r) (fun a=>a.1) (mf2,0) 2 h (sR []) (fun a _ h=>?_)
 obtain ⟨mf2,x18⟩:=a
 obtain ⟨mf2,rfl,h⟩:=ZL hf2 h
 dsimp only at h ⊢
 refine Zt ?_
 refine rg ?_
 refine lM Link.cs p0 ?_
 refine cS h rfl (fun h=>?_) fun h=>?_
 ·refine bl ?_
  refine rg ?_
  refine aI Link.cs h fun e25 h=>?_
  refine aI Link.cs h fun e26 h=>?_
  refine Zl6 (.inr rfl) rfl rfl rfl rfl rfl (fun W=>ZpE e25 e26 W) (Zt ?_)
  refine cS h rfl (fun h=>?_) fun h=>?_
  ·refine rg ?_
   cases h
   exact rQ
  refine rg ?_
  exact rn (mf2,(w64 (x18+1))) h (sR [])
 refine rg ?_
 cases h
 exact rQ
def ZdW (p0:List Memb) (p1:List Memb):Option Bool:=
 if (!decide ((p0.length:Int)=(p1.length:Int))) then
  (some false:Option Bool)
 else
 Zbf Zdo (fun f2 (x18:Int)=>
  if (decide (x18<(p0.length:Int))) then
   (atI p0 x18).bind fun e25=>
   (atI p1 x18).bind fun e26=>
   if (!decide (e25=e26)) then
    (some false:Option Bool)
   else
   f2 (w64 (x18+1))
  else
  (some true:Option Bool)) 0
theorem Zhl (p0:List Memb) (p1:List Memb) (r:Bool) (h:ZdW p0 p1=some r):Zn Tryz.prog 16 [.sl (List.map Memb.cs p0),.sl (List.map Memb.cs p1)] (.bool r):=by
 refine cF (fun r=>.bool r) h mix Tryz.func16 fun r h=>?_
 unfold ZdW at h
 refine Zt ?_
 refine rg ?_
 refine rg ?_
 refine lM Memb.cs p0 ?_
 refine lM Memb.cs p1 ?_
 refine cS h rfl (fun h=>?_) fun h=>?_
 ·refine rg ?_
  cases h
  exact rQ
 refine rg ?_
 refine bl ?_
 refine ZK h fun f2 mf2 hf2 h=>?_
 refine ZE (α:=Nat×Int) (fun a _=>mkS [(0,.sl (List.map Memb.cs p0)),(1,.sl (List.map Memb.cs p1)),(5,.int .i64 a.2)] [] 2) (fun a=>Zbf a.1 f2 a.2=some r) (fun a=>a.1) (mf2,0) 2 h (sR []) (fun a _ h=>?_)
 obtain ⟨mf2,x18⟩:=a
 obtain ⟨mf2,rfl,h⟩:=ZL hf2 h
 dsimp only at h ⊢
 refine Zt ?_
 refine rg ?_
 refine lM Memb.cs p0 ?_
 refine cS h rfl (fun h=>?_) fun h=>?_
 ·refine bl ?_
  refine rg ?_
  refine aI Memb.cs h fun e25 h=>?_
  refine aI Memb.cs h fun e26 h=>?_
  refine Zl6 (.inr rfl) rfl rfl rfl rfl rfl (fun W=>ZsW e25 e26 W) (Zt ?_)
  refine cS h rfl (fun h=>?_) fun h=>?_
  ·refine rg ?_
   cases h
   exact rQ
  refine rg ?_
  exact rn (mf2,(w64 (x18+1))) h (sR [])
 refine rg ?_
 cases h
 exact rQ
def Zfs:Option Bool:=
 (Zc2 (⟨#[91,91,65,124,98,93,93,32,123,123,116,124,91,91,67,93,93,125,125,32,91,91,67,97,116,101,103,111,114,121,58,88,124,121,93,93,32,60,105,110,99,108,117,100,101,111,110,108,121,62,91,91,68,93,93,60,47,105,110,99,108,117,100,101,111,110,108,121,62]⟩:ByteArray)).bind fun r1=>
 letk (fun (x4:Bool)=>
  (some x4:Option Bool)) fun k1=>
 if (decide (r1.2.2=0)) then
  (ZeX r1.1 [(⟨1,(⟨0,(⟨#[65]⟩:ByteArray)⟩:Title)⟩:Link),(⟨2,(⟨3,(⟨#[84]⟩:ByteArray)⟩:Title)⟩:Link)]).bind fun r5=>
  if r5 then
   (ZdW r1.2.1 [(⟨(⟨4,(⟨#[88]⟩:ByteArray)⟩:Title),(⟨#[121]⟩:ByteArray)⟩:Memb)]).bind fun r6=>
   k1 r6
  else
  k1 false
 else
 k1 false
theorem Zi4  (r:Bool) (h:Zfs=some r):Zn Tryz.prog 10 [] (.bool r):=by
 refine cF (fun r=>.bool r) h mix Tryz.func10 fun r h=>?_
 unfold Zfs at h
 refine Zt ?_
 refine rg ?_
 refine rg ?_
 refine aC h (ZeO _) fun r1 h=>?_
 refine jL h (fun x4=>mkS [(0,.bool x4)] [] 2) (fun k1 h=>?_) fun x4 h=>?_
 ·refine rg ?_
  refine kS 11 h rfl (fun h=>?_) fun h=>?_
  ·refine ZcT (M:=([(⟨1,(⟨0,(⟨#[65]⟩:ByteArray)⟩:Title)⟩:Link),(⟨2,(⟨3,(⟨#[84]⟩:ByteArray)⟩:Title)⟩:Link)]:List Link)) (f:=Link.cs) rfl rfl rfl rfl (Nat.le_of_ble_eq_true rfl) rfl (Zt ?_)
   refine aL h (Zi3 _ _) fun r5 h=>?_
   refine kS 20 h rfl (fun h=>?_) fun h=>?_
   ·refine ZcT (M:=([(⟨(⟨4,(⟨#[88]⟩:ByteArray)⟩:Title),(⟨#[121]⟩:ByteArray)⟩:Memb)]:List Memb)) (f:=Memb.cs) rfl rfl rfl rfl (Nat.le_of_ble_eq_true rfl) rfl (Zt ?_)
    refine aL h (Zhl _ _) fun r6 h=>?_
    exact jn r6 h (sR [])
   iterate 5 refine ZI rfl (Zt ?_)
   exact jn false h (sR [])
  iterate 12 refine ZI rfl (Zt ?_)
  exact jn false h (sR [])
 cases h
 exact rQ
end Go.Proofs.YtmgfammllddkhaaGreatDoor
namespace Go.Proofs.YtmgfammllddkhaaGreatDoor
open Go.RowKit
theorem Zt6 (r:Int) (h:128≤r):∃ x:UInt8,128≤x.toNat∧((∃ a,Utf8.encode r=⟨#[a,x]⟩)∨(∃ a b,Utf8.encode r=⟨#[a,b,x]⟩)∨∃ a b c,Utf8.encode r=⟨#[a,b,c,x]⟩):=by
 have hb:∀ n:Nat,n<64→128≤(UInt8.ofNat (0x80+n)).toNat:=fun n hn=>by
  rw [UInt8.toNat_ofNat']
  omega
 unfold Utf8.encode
 generalize hc:(if Utf8.valid r=true then r.toNat else Utf8.runeError)=c
 have h128:128≤c:=by
  rw [← hc]
  split
  ·omega
  ·decide
 dsimp only
 rw [if_neg (by omega)]
 split
 ·exact ⟨_,hb (c % 64) (Nat.mod_lt _ (by decide)),.inl ⟨_,rfl⟩⟩
 split
 ·exact ⟨_,hb (c % 64) (Nat.mod_lt _ (by decide)),.inr (.inl ⟨_,_,rfl⟩)⟩
 ·exact ⟨_,hb (c % 64) (Nat.mod_lt _ (by decide)),.inr (.inr ⟨_,_,_,rfl⟩)⟩
theorem ZlI:∀ (l:List UInt8) (x:UInt8),(∀ b ∈ l,b.toNat<128)→128≤x.toNat→Lib.indexByte l x = -1
 | l,x,h,hx=>by
   have:=Lib.contains_iff_indexByte l x
   have hn:l.contains x=false:=by
    rw [Bool.eq_false_iff]
    intro hc
    have:=h x (by simpa using hc)
    omega
   rw [hn] at this
   have h1:=of_decide_eq_false this.symm
   have h2:=Lib.indexByte_ge l x
   omega
set_option maxHeartbeats 4000000 in
set_option maxRecDepth 100000 in
theorem ZkD (s:ByteArray) (ha:∀ (j:Nat) b,s.data.toList[j]? = some b→b.toNat<128) (w:World) :
  Calls Tryz.prog 97 #[.string s,.int .i32 65533] w fun e w'=>e = .returned (.int .i64 (-1))∧Below w.heap.size w w':=by
 have HA:Aside (∀ (j:Nat) b,s.data.toList[j]? = some b→b.toNat<128):=ha
 clear ha
 go_enter Tryz.func97,Tryz.ntmps97
 go_wp2
 go_loopw [5,6] (fun _ _ wr=>∃ pos:Nat,pos≤s.size∧wr.heap[w.heap.size]? = some (.stringIter s pos)∧Below w.heap.size w wr) (fun _ _ wr=>s.size - wr.iterPos w.heap.size)
 case atStart=>exact ⟨0,Nat.zero_le _,World.iter_heap w s 0,(Below.refl _ w).alloc (Nat.le_refl _) _⟩
 case round=>
  obtain ⟨pos,hp,hit,hbw⟩:=hrel
  by_cases hlt:pos<s.size
  ·have hx:∃ x:UInt8,s[pos]'hlt=x:=⟨_,rfl⟩
   obtain ⟨x,hx⟩:=hx
   have hx128:x.toNat<128:=HA.out pos x (by rw [← hx];exact Lib.data_getElem? s pos hlt)
   have hnx:=fun ty=>Lib.run_next_ascii_at (P:=Tryz.prog) wr w.heap.size s pos ty hit hlt (by rw [hx];exact hx128)
   rw [hx] at hnx
   have hne:¬ ((x.toNat:Int)=65533):=by omega
   go_wp2
   go_roundw
   case rel=>exact ⟨pos+1,hlt,Lib.iterAt_heap wr w.heap.size s pos (pos+1) hit,Lib.below_iterAt hbw (Nat.le_refl _) s (pos+1)⟩
   case measure=>simp only [World.iterPos,Lib.iterAt_heap wr w.heap.size s pos (pos+1) hit,hit];omega
  ·have hnx:=fun ty=>Lib.run_next_end_at (P:=Tryz.prog) wr w.heap.size s pos ty hit hlt
   go_wp2
   go_ret
   exact ⟨rfl,hbw⟩
set_option maxHeartbeats 4000000 in
set_option maxRecDepth 100000 in
theorem ZeT (s:ByteArray) (hs:s.size≤1000) (ha:∀ (j:Nat) b,s.data.toList[j]? = some b→b.toNat<128) (r:Int) (h1:128≤r) (hr:¬ r=65533) (h2:2≤(Utf8.encode r).size) (h4:(Utf8.encode r).size≤4) (x:UInt8) (hx:(Utf8.encode r).data.toList[(Utf8.encode r).size - 1]? = some x) (hx128:128≤x.toNat) (w:World) :
  Calls Tryz.prog 97 #[.string s,.int .i32 r] w fun e w'=>e = .returned (.int .i64 (-1))∧Below w.heap.size w w':=by
 have HA:Aside (∀ (j:Nat) b,s.data.toList[j]? = some b→b.toNat<128):=ha
 have HX:=Lib.hid hx
 clear ha hx
 have h128:¬ r<128:=by omega
 go_enter Tryz.func97,Tryz.ntmps97
 by_cases hv:Lib.validRune r=true
 ·go_wp2_with (go_at_call 166;refine (Tryz.utf8_ValidRune r _).mono ?_;rintro e w' ⟨rfl,hw⟩;rw [hw,hv])
  go_step3
  go_wp2
  obtain ⟨m,hm⟩:∃ m:Nat,((Utf8.encode r).size:Int) - 1=(m:Int):=⟨(Utf8.encode r).size - 1,by omega⟩
  rw [hm]
  have HM:=Lib.hid hm
  have b0:m+1≤(Utf8.encode r).size:=by omega
  clear hm
  go_loopw [9] (fun i wr=>i = .int .i64 (m:Int)∧wr=w) (fun _ _=>0)
  case atStart=>exact ⟨by go_num,rfl⟩
  case round=>
   obtain ⟨rfl,rfl⟩:=hrel
   by_cases hlt:m<s.size
   ·have hlr:m<(Utf8.encode r).size:=by omega
    have b1:(0:Int)≤(m:Int):=by omega
    have b2:(m:Int)<(s.size:Int):=by omega
    have b3:(m:Int)<((Utf8.encode r).size:Int):=by omega
    go_wp2_with fail
    go_step3
    go_wp2_with fail
    have hxe:(Utf8.encode r)[m]'hlr=x:=by
     have h1:=HX.out
     rw [show (Utf8.encode r).size - 1=m by have:=HM.out;omega,Lib.data_getElem? _ m hlr] at h1
     injection h1
    have hy128:(s[m]'hlt).toNat<128:=HA.out m _ (Lib.data_getElem? s m hlt)
    have hne:(((s[m]'hlt).toNat:Int) != (x.toNat:Int))=true:=by
     simp
     omega
    have HI:Hid (Lib.indexByte (s.extract (m+1) s.size).data.toList x = -1):=Lib.hid (ZlI _ _ (fun b hb=>by
     obtain ⟨j,hj⟩:=List.getElem?_of_mem hb
     rw [ByteArray.data_extract,Array.toList_extract,List.extract_eq_take_drop,List.getElem?_take] at hj
     split at hj
     ·rw [List.getElem?_drop] at hj
      exact HA.out _ b hj
     ·cases hj) hx128)
    go_quiet (fail)
    first | rw [hne] | skip
    have b4:(m:Int)+1≤(s.size:Int):=by omega
    have b5:(0:Int)≤(m:Int)+1:=by omega
    have hback:((x.toNat:Int)).toNat.toUInt8=x:=by simp
    have b6:IntKind.i64.wrap ((m:Int)+1)=(m:Int)+1:=by rw [IntKind.wrap_i64];omega
    have b7:m+1≤s.size:=hlt
    have b8:((m:Int)+1).toNat=m+1:=by omega
    go_wp2_with fail
    go_quiet ((go_at_call 165;exact (Tryz.strings_IndexByte _ _ _).mono (fun e w' h=>⟨by rw [h.1,hback,HI.out],_,h.2⟩)))
    go_wp2
    simp +zetaDelta only [Exit.noGoto,Exit.inBlock,Exit.then]
    go_ret
    exact ⟨rfl,Below.dn (Below.refl _ _) _⟩
   ·have hc:¬ (m:Int)<(s.size:Int):=by omega
    go_wp2
    go_ret
    exact ⟨rfl,Below.refl _ _⟩
 ·have hv':Lib.validRune r=false:=by simpa using hv
  go_wp2_with (go_at_call 166;refine (Tryz.utf8_ValidRune r _).mono ?_;rintro e w' ⟨rfl,hw⟩;rw [hw,hv'])
  go_ret
  exact ⟨rfl,Below.refl _ _⟩
theorem ZlJ (s:ByteArray) (hs:s.size≤1000) (ha:∀ (j:Nat) b,s.data.toList[j]? = some b→b.toNat<128) (r:Int) (h1:128≤r) (w:World) :
  Calls Tryz.prog 97 #[.string s,.int .i32 r] w fun e w'=>e = .returned (.int .i64 (-1))∧Below w.heap.size w w':=by
 by_cases hr:r=65533
 ·subst hr
  exact ZkD s ha w
 ·obtain ⟨x,hx,he⟩:=Zt6 r h1
  rcases he with ⟨a,he⟩ | ⟨a,b,he⟩ | ⟨a,b,c,he⟩
  ·exact ZeT s hs ha r h1 hr (by rw [he];exact Nat.le_refl 2) (by rw [he];show 2≤4;decide) x (by rw [he];rfl) hx w
  ·exact ZeT s hs ha r h1 hr (by rw [he];show 2≤3;decide) (by rw [he];show 3≤4;decide) x (by rw [he];rfl) hx w
  ·exact ZeT s hs ha r h1 hr (by rw [he];show 2≤4;decide) (by rw [he];exact Nat.le_refl 4) x (by rw [he];rfl) hx w
theorem Znn {s:ByteArray} {j:Nat} {b:UInt8} (h:s.data.toList[j]? = some b):s.get! j=b:=by
 obtain ⟨a⟩:=s
 have:a[j]? = some b:=by simpa using h
 show a[j]! = b
 rw [getElem!_def,this]
theorem ZlK (s:ByteArray) (pos:Nat) (h:pos<s.size) (ha:128≤(s.get! pos).toNat) (j:Nat) (hj:j<(Utf8.decode s pos).2):pos+j<s.size∧128≤(s.get! (pos+j)).toNat:=by
 have one:j<1→pos+j<s.size∧128≤(s.get! (pos+j)).toNat:=fun hj=>by
  obtain rfl:j=0:=by omega
  exact ⟨h,ha⟩
 have cont:∀ k,(decide (pos+k<s.size)&&(s.get! (pos+k)).toNat / 64 == 2)=true→pos+k<s.size∧128≤(s.get! (pos+k)).toNat:=fun k hk=>by
  simp only [Bool.and_eq_true,decide_eq_true_eq,beq_iff_eq] at hk
  exact ⟨hk.1,by omega⟩
 unfold Utf8.decode at hj
 dsimp only at hj
 split at hj
 ·exact one hj
 split at hj
 ·rename_i h1
  rw [Bool.and_eq_true] at h1
  split at hj
  ·have:j=0∨j=1:=by dsimp only at hj;omega
   rcases this with rfl | rfl
   ·exact one (by decide)
   ·exact cont 1 h1.2
  ·exact one hj
 split at hj
 ·rename_i h1
  rw [Bool.and_eq_true,Bool.and_eq_true] at h1
  split at hj
  ·have:j=0∨j=1∨j=2:=by dsimp only at hj;omega
   rcases this with rfl | rfl | rfl
   ·exact one (by decide)
   ·exact cont 1 h1.1.2
   ·exact cont 2 h1.2
  ·exact one hj
 split at hj
 ·rename_i h1
  rw [Bool.and_eq_true,Bool.and_eq_true,Bool.and_eq_true] at h1
  split at hj
  ·have:j=0∨j=1∨j=2∨j=3:=by dsimp only at hj;omega
   rcases this with rfl | rfl | rfl | rfl
   ·exact one (by decide)
   ·exact cont 1 h1.1.1.2
   ·exact cont 2 h1.1.2
   ·exact cont 3 h1.2
  ·exact one hj
 ·exact one hj
theorem ZrP {s chars:ByteArray} {pos k:Nat} (hc:∀ (j:Nat) b,chars.data.toList[j]? = some b→b.toNat<128) (h:Lib.NoAny s.data.toList chars.data.toList pos) (hk:∀ j,j<k→128≤(s.get! (pos+j)).toNat):Lib.NoAny s.data.toList chars.data.toList (pos+k):=fun j b hj hb=>by
 by_cases h1:j<pos
 ·exact h j b h1 hb
 ·have h2:=hk (j - pos) (by omega)
  rw [show pos+(j - pos)=j by omega,Znn hb] at h2
  rw [Bool.eq_false_iff]
  intro h3
  obtain ⟨i,hi⟩:=List.getElem?_of_mem (show b ∈ chars.data.toList by simpa using h3)
  have:=hc i b hi
  omega
set_option maxHeartbeats 4000000 in
set_option maxRecDepth 100000 in
theorem Zjm (s chars:ByteArray) (w:World) (h2:2≤chars.size) (hc:chars.size≤1000) (h8:s.size≤8) (hascii:∀ (j:Nat) b,chars.data.toList[j]? = some b→b.toNat<128) :
  Calls Tryz.prog 59 #[.string s,.string chars] w fun e w'=>e = .returned (.int .i64 (Lib.indexAny s.data.toList chars.data.toList))∧Below w.heap.size w w':=by
 have HA:Aside (∀ (j:Nat) b,chars.data.toList[j]? = some b→b.toNat<128):=hascii
 clear hascii
 have hemp:chars.toList.isEmpty=false:=by
  rw [Lib.toList_data]
  cases h:chars.data.toList with
  | nil=>have:=Lib.size_eq chars;rw [h,List.length_nil] at this;omega
  | cons _ _=>rfl
 have hn1:((chars.size:Int) == 1)=false:=beq_eq_false_iff_ne.2 (by omega)
 have h8z:decide ((8:Int)<(s.size:Int))=false:=decide_eq_false (by omega)
 go_enter Tryz.func59,Tryz.ntmps59
 go_wp2_with (go_at_call 98;refine (Tryz.strings_shouldUseASCIISet _ _).mono ?_;rintro e w' ⟨rfl,hw⟩;rw [hw,h8z])
 go_loopw [9,10] (fun _ _ wr=>∃ pos:Nat,pos≤s.size∧wr.heap[w.heap.size]? = some (.stringIter s pos)∧Below w.heap.size w wr∧Lib.NoAny s.data.toList chars.data.toList pos) (fun _ _ wr=>s.size - wr.iterPos w.heap.size)
 case atStart=>exact ⟨0,Nat.zero_le _,World.iter_heap w s 0,(Below.refl _ w).alloc (Nat.le_refl _) _,Lib.NoAny.zero _ _⟩
 case round=>
  obtain ⟨pos,hp,hit,hbw,hno⟩:=hrel
  have HN:Aside (Lib.NoAny s.data.toList chars.data.toList pos):=hno
  clear hno
  by_cases hlt:pos<s.size
  ·by_cases hx128:(s[pos]'hlt).toNat<128
   ·obtain ⟨x,hx⟩:∃ x:UInt8,s[pos]'hlt=x:=⟨_,rfl⟩
    have hxl:s.data.toList[pos]? = some x:=by rw [← hx];exact Lib.data_getElem? s pos hlt
    rw [hx] at hx128
    have hnx:=fun ty=>Lib.run_next_ascii_at (P:=Tryz.prog) wr w.heap.size s pos ty hit hlt (by rw [hx];exact hx128)
    rw [hx] at hnx
    have Hx:Aside (s.data.toList[pos]? = some x):=hxl
    clear hxl hx
    have hcon:=Lib.contains_iff_indexByte chars.data.toList x
    have hback:((x.toNat:Int)).toNat.toUInt8=x:=by simp
    cases hin:chars.data.toList.contains x
    ·rw [hin] at hcon
     have hlt2:¬ ((0:Int)≤Lib.indexByte chars.data.toList x):=of_decide_eq_false hcon.symm
     clear hcon
     go_wp2_with (go_at_call 97;refine (Tryz.strings_IndexRune_ascii _ _ _ (by omega) (by omega)).mono ?_;rintro e w' ⟨rfl,hw⟩;rw [hw,hback])
     go_roundw
     case rel=>exact ⟨pos+1,hlt,Lib.iterAt_heap wr w.heap.size s pos (pos+1) hit,Lib.below_iterAt hbw (Nat.le_refl _) s (pos+1),HN.out.succ Hx.out hin⟩
     case measure=>simp only [World.iterPos,Lib.iterAt_heap wr w.heap.size s pos (pos+1) hit,hit];omega
    ·rw [hin] at hcon
     have hge:(0:Int)≤Lib.indexByte chars.data.toList x:=of_decide_eq_true hcon.symm
     clear hcon
     go_wp2_with (go_at_call 97;refine (Tryz.strings_IndexRune_ascii _ _ _ (by omega) (by omega)).mono ?_;rintro e w' ⟨rfl,hw⟩;rw [hw,hback])
     go_ret
     exact ⟨by rw [Lib.indexAny_hit HN.out Hx.out hin];rfl,Lib.below_iterAt hbw (Nat.le_refl _) s (pos+1)⟩
   ·have hg:128≤(s.get! pos).toNat:=by rw [Znn (Lib.data_getElem? s pos hlt)];omega
    have hb:=ZlK s pos hlt hg
    obtain ⟨d1,d2⟩:=decode_high s pos hlt (by omega)
    have hnx:=fun ty=>Lib.run_next_any_at (P:=Tryz.prog) wr w.heap.size s pos ty hit hlt
    generalize hrk:Utf8.decode s pos=rk at hb d1 d2 hnx
    obtain ⟨r,k⟩:=rk
    dsimp only at hb d1 d2 hnx
    clear hrk
    have hsz:pos+k≤s.size:=by have:=(hb (k - 1) (by omega)).1;omega
    have HN2:=ZrP HA.out HN.out fun j hj=>(hb j hj).2
    have HN3:Aside (Lib.NoAny s.data.toList chars.data.toList (pos+k)):=HN2
    clear HN2 hb
    go_wp2_with (go_at_call 97;refine (ZlJ _ (by omega) HA.out _ (by omega) _).mono ?_;rintro e w' ⟨rfl,hbw2⟩)
    have hit2:=Lib.iterAt_heap wr w.heap.size s pos (pos+k) hit
    have hlt3:w.heap.size<(wr.iterAt w.heap.size s (pos+k)).heap.size:=(Array.getElem?_eq_some_iff.1 hit2).1
    have hit3:w'.heap[w.heap.size]? = some (.stringIter s (pos+k)):=(hbw2.block _ hlt3).trans hit2
    refine ⟨⟨pos+k,hsz,hit3,(Lib.below_iterAt hbw (Nat.le_refl _) s (pos+k)).trans (hbw2.mono (Nat.le_of_lt hlt3)),HN3.out⟩,?_⟩
    simp only [World.iterPos,hit3,hit]
    omega
  ·have hnx:=fun ty=>Lib.run_next_end_at (P:=Tryz.prog) wr w.heap.size s pos ty hit hlt
   obtain rfl:pos=s.size:=by omega
   go_wp2
   go_ret
   exact ⟨by rw [Lib.indexAny_none (by rw [← Lib.size_eq];exact HN.out)];rfl,hbw⟩
end Go.Proofs.YtmgfammllddkhaaGreatDoor
namespace Go.Proofs.YtmgfammllddkhaaGreatDoor
open VL Go.RowKit
set_option maxRecDepth 1000000 in
theorem ZkU (s chars:ByteArray) (w:World) (h2:2≤chars.size) (hc:chars.size≤1000) (hs:s.size<4294967281) (hascii:∀ (j:Nat) b,chars.data.toList[j]? = some b→b.toNat<128) :
  Calls Tryz.prog 59 #[.string s,.string chars] w fun e w'=>e = .returned (.int .i64 (Lib.indexAny s.data.toList chars.data.toList))∧Below w.heap.size w w':=by
 by_cases h8:s.size≤8
 ·exact Zjm s chars w h2 hc h8 hascii
 ·refine (Tryz.strings_IndexAny_long (zero_of_info (show (Tryz.prog.info? 130).map (fun i=>(i.zero,i.size))=some (some (.agg (Array.replicate 256 (.bool false))),256) by kernel_rfl)).1 s chars w h2 (by omega) hs (by omega) hascii).mono ?_
  rintro e w' ⟨rfl,rfl⟩
  exact ⟨rfl,((Below.refl _ w).alloc (Nat.le_refl _) _).alloc (by simp) _⟩
theorem Zfb (s chars:ByteArray) (w:World) (h2:2≤chars.size) (hc:chars.size≤1000) (hs:s.size<4294967281) (hascii:∀ (j:Nat) b,chars.data.toList[j]? = some b→b.toNat<128) :
  Calls Tryz.prog 25 #[.string s,.string chars] w fun e w'=>e = .returned (.bool (Lib.containsAny s.data.toList chars.data.toList))∧Below w.heap.size w w':=by
 unfold Lib.containsAny
 have hcon:=ZkU s chars
 generalize Lib.indexAny s.data.toList chars.data.toList=q at hcon ⊢
 go_enter Tryz.func25,Tryz.ntmps25
 go_wp2_with (go_at_call 59;refine (hcon _ h2 hc hs hascii).mono ?_;rintro e w' ⟨rfl,hb⟩)
 go_ret
 exact ⟨rfl,hb⟩
def Zby (s c:ByteArray):Option Bool:=if s.size<4294967281∧(c=⟨#[123,125]⟩∨c=⟨#[60,123,125]⟩) then some (Lib.containsAny s.data.toList c.data.toList) else none
theorem Zfc (s c:ByteArray) (r:Bool) (h:Zby s c=some r):Zn Tryz.prog 25 [.str s,.str c] (.bool r):=by
 unfold Zby at h
 split at h
 ·rename_i hc
  injection h with h
  subst h
  refine Zaw (vals:=[.string s,.string c]) (by kernel_rfl) rfl rfl (fun x=>.bool _) fun w _=>?_
  rcases hc.2 with rfl | rfl
  ·exact Zfb s _ w (by decide) (by decide) hc.1 (fun j b hj=>by match j,hj with | 0,hj=>(injection hj with hj;subst hj;decide) | 1,hj=>(injection hj with hj;subst hj;decide))
  ·exact Zfb s _ w (by decide) (by decide) hc.1 (fun j b hj=>by match j,hj with | 0,hj=>(injection hj with hj;subst hj;decide) | 1,hj=>(injection hj with hj;subst hj;decide) | 2,hj=>(injection hj with hj;subst hj;decide))
 ·cases h
def ZcU (s c:ByteArray):Option Int:=if s.size<4294967281∧1≤c.size then some (Lib.countB s c:Int) else none
theorem ZhH (s c:ByteArray) (r:Int) (h:ZcU s c=some r):Zn Tryz.prog 26 [.str s,.str c] (.int .i64 r):=by
 unfold ZcU at h
 split at h
 ·rename_i hc
  injection h with h
  subst h
  exact Zaw (vals:=[.string s,.string c]) (by kernel_rfl) rfl rfl (fun x=>.int _ _) fun w hw=>by
   obtain ⟨m,hm⟩:=hw.1
   exact (Tryz.strings_Count_any s c m w hc.1 hm hc.2).mono fun e w' ⟨e1,e2⟩=>⟨e1,e2 ▸ Below.refl _ _⟩
 ·cases h
end Go.Proofs.YtmgfammllddkhaaGreatDoor
