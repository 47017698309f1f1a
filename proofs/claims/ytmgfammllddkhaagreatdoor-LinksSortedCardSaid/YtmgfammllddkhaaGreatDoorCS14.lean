/- Functions of the program as Lean functions. Written by fxgen.py. | Strings as lists of bytes. | The tape's texts: they are made, and not long. | title.Parse answers at any bytes. | links.finder's literal answers at any bytes. | links.finder's own and templates as folds over the nodes. | The scanner on lists of bytes. | The scanner on lists of bytes: the first token, all tokens. | All tokens of a text. | Weights of nodes and of the parser's stack: nothing grows by more than the texts that are taken. | The parser's steps return, and what they return is of bounded weight. | The parser returns: the braces, a token, all tokens. | The parser returns a tree for every text of at most 8192 bytes. | What links.finder finds is good: titles that are valid, kinds, spaces. | Stable sorting by insertion, and merging. No program is named. | The library's stable sorting at memberships: exchanging and turning stretches. | The library's stable sorting at memberships: insertion. | The library's stable sorting at memberships: merging in place. | The library's stable sorting at memberships: merging in place, whatever the lengths. | slices.SortStableFunc at memberships is the stable sorting. | slices.Compact and CompactFunc: runs of equals become one. | Sorted and compacted lists: what is in them, and the first of each kind. -/
import Derived.Test.YtmgfammllddkhaaGreatDoorCS13
import Derived.Test.YtmgfammllddkhaaGreatDoorCS06
import Derived.Test.YtmgfammllddkhaaGreatDoorCS08
import Derived.Test.YtmgfammllddkhaaGreatDoorCS10
import Derived.Test.YtmgfammllddkhaaGreatDoorCS03
import Derived.Test.YtmgfammllddkhaaGreatDoorCS07
import Derived.Lib.IndexMore
import Derived.Test.YtmgfammllddkhaaGreatDoorCS04
import Derived.Test.YtmgfammllddkhaaGreatDoorCS11
import Derived.Test.YtmgfammllddkhaaGreatDoorCS12
set_option linter.unusedVariables false
set_option maxHeartbeats 4000000
set_option maxRecDepth 100000
namespace Go.Proofs.YtmgfammllddkhaaGreatDoor
open VL
def Zk0 (p0:Title):Option Bool:=
 (ZnA p0).bind fun r1=>
 (some r1:Option Bool)
theorem Zow (p0:Title) (r:Bool) (h:Zk0 p0=some r):Zo Tryz.prog 19 [p0.pv] (.bool r):=by
 refine cF (fun r=>.bool r) h mix Tryz.func19 fun r h=>?_
 unfold Zk0 at h
 refine Zq ?_
 refine rg ?_
 refine rg ?_
 refine aC h (Zom _) fun r1 h=>?_
 cases h
 exact rQ
def ZeP (p0:Title) (p1:Title):Option Bool:=
 letk (fun (x1:Bool)=>
  (some x1:Option Bool)) fun k1=>
 if (decide (p0.space<p1.space)) then
  k1 true
 else
 if (decide (p0.space=p1.space)) then
  k1 (ltS p0.name p1.name)
 else
 k1 false
theorem Zl2 (p0:Title) (p1:Title) (r:Bool) (h:ZeP p0 p1=some r):Zo Tryz.prog 20 [p0.pv,p1.pv] (.bool r):=by
 refine cF (fun r=>.bool r) h mix Tryz.func20 fun r h=>?_
 unfold ZeP at h
 refine Zq ?_
 refine rg ?_
 refine jL h (fun x1=>mkS [(4,.bool x1)] [] 2) (fun k1 h=>?_) fun x1 h=>?_
 ·refine rg ?_
  refine kS 10 h rfl (fun h=>?_) fun h=>?_
  ·iterate 12 refine ZN rfl (Zq ?_)
   exact jn true h (sR [])
  refine kS 16 h rfl (fun h=>?_) fun h=>?_
  ·exact jn (ltS p0.name p1.name) h (sR [])
  iterate 5 refine ZN rfl (Zq ?_)
  exact jn false h (sR [])
 cases h
 exact rQ
def ZcA (p0:List Int):Option Bool:=
 (Zpg p0).bind fun r1=>
 (Zda r1 3).bind fun r2=>
 if (decide (1500<(r2.1.size:Int))) then
  (ZfO).bind fun r4=>
  (some r4:Option Bool)
 else
 (Zd2 r2.1).bind fun r5=>
 Zbq Zel (fun f18 (x155:Int)=>
  if (decide (x155<(r5.1.length:Int))) then
   letk (fun (x239:Bool)=>
    if x239 then
     (some false:Option Bool)
    else
    letk (fun (x247:Bool)=>
     if x247 then
      (some false:Option Bool)
     else
     f18 (w64 (x155+1))) fun k22=>
    if (decide (0<x155)) then
     (atI r5.1 (w64 (x155 - 1))).bind fun e248=>
     (atI r5.1 x155).bind fun e249=>
     if (decide (e249.kind<e248.kind)) then
      k22 true
     else
     (atI r5.1 (w64 (x155 - 1))).bind fun e250=>
     (atI r5.1 x155).bind fun e251=>
     if (decide (e250.kind=e251.kind)) then
      (atI r5.1 (w64 (x155 - 1))).bind fun e252=>
      (atI r5.1 x155).bind fun e253=>
      (ZeP e252.title e253.title).bind fun r254=>
      k22 (!r254)
     else
     k22 false
    else
    k22 false) fun k21=>
   (atI r5.1 x155).bind fun e255=>
   (Zk0 e255.title).bind fun r256=>
   if (!r256) then
    k21 true
   else
   (atI r5.1 x155).bind fun e257=>
   if (decide (e257.kind<1)) then
    k21 true
   else
   (atI r5.1 x155).bind fun e258=>
   if (decide (4<e258.kind)) then
    k21 true
   else
   (atI r5.1 x155).bind fun e259=>
   k21 (decide (e259.kind=3))
  else
  Zbq Zel (fun f34 (x301:Int)=>
   if (decide (x301<(r5.2.1.length:Int))) then
    letk (fun (x326:Bool)=>
     if x326 then
      (some false:Option Bool)
     else
     f34 (w64 (x301+1))) fun k36=>
    (atI r5.2.1 x301).bind fun e327=>
    if (!decide (e327.category.space=4)) then
     k36 true
    else
    if (decide (0<x301)) then
     (atI r5.2.1 (w64 (x301 - 1))).bind fun e328=>
     (atI r5.2.1 x301).bind fun e329=>
     k36 (!ltS e328.category.name e329.category.name)
    else
    k36 false
   else
   letk (fun (x331:Bool)=>
    (some x331:Option Bool)) fun k37=>
   if (decide (r5.2.2=0)) then
    (ZfO).bind fun r332=>
    k37 r332
   else
   k37 false) 0) 0
theorem Zhy (p0:List Int) (r:Bool) (h:ZcA p0=some r):Zo Tryz.prog 5 [.sl (List.map csI p0)] (.bool r):=by
 refine cF (fun r=>.bool r) h mix Tryz.func5 fun r h=>?_
 unfold ZcA at h
 refine Zq ?_
 refine rg ?_
 refine rg ?_
 refine aN h (Zrn _) fun r1 h=>?_
 refine aO h (Zjz _ _) fun r2 h=>?_
 refine rg ?_
 refine cS h rfl (fun h=>?_) fun h=>?_
 ·refine rg ?_
  refine aC h Zjs fun r4 h=>?_
  cases h
  exact rQ
 refine rg ?_
 refine aC h (ZiQ _) fun r5 h=>?_
 refine rg ?_
 refine bl ?_
 refine ZW h fun f18 mf18 hf18 h=>?_
 refine ZH (α:=Nat×Int) (fun a _=>mkS [(4,.sl (List.map Link.cs r5.1)),(5,.sl (List.map Memb.cs r5.2.1)),(6,.int .i64 r5.2.2),(7,.int .i64 a.2)] [] 2) (fun a=>Zbq a.1 f18 a.2=some r) (fun a=>a.1) (mf18,0) 2 h (sR []) (fun a _ h=>?_)
 obtain ⟨mf18,x155⟩:=a
 obtain ⟨mf18,rfl,h⟩:=ZX hf18 h
 dsimp only at h ⊢
 refine Zq ?_
 refine rg ?_
 refine lM Link.cs r5.1 ?_
 refine cS h rfl (fun h=>?_) fun h=>?_
 ·refine bl ?_
  refine jL h (fun x239=>mkS [(4,.sl (List.map Link.cs r5.1)),(5,.sl (List.map Memb.cs r5.2.1)),(6,.int .i64 r5.2.2),(7,.int .i64 x155),(58,.bool x239)] [] 2) (fun k21 h=>?_) fun x239 h=>?_
  ·refine rg ?_
   refine aI Link.cs h fun e255 h=>?_
   refine aC h (Zow _) fun r256 h=>?_
   refine kS 35 h rfl (fun h=>?_) fun h=>?_
   ·iterate 18 refine ZN rfl (Zq ?_)
    exact jn true h (sR [])
   refine aI Link.cs h fun e257 h=>?_
   refine kS 43 h rfl (fun h=>?_) fun h=>?_
   ·iterate 12 refine ZN rfl (Zq ?_)
    exact jn true h (sR [])
   refine aI Link.cs h fun e258 h=>?_
   refine kS 51 h rfl (fun h=>?_) fun h=>?_
   ·iterate 6 refine ZN rfl (Zq ?_)
    exact jn true h (sR [])
   refine aI Link.cs h fun e259 h=>?_
   exact jn (decide (e259.kind=3)) h (sR [])
  refine cS h rfl (fun h=>?_) fun h=>?_
  ·refine rg ?_
   cases h
   exact rQ
  refine jL h (fun x247=>mkS [(4,.sl (List.map Link.cs r5.1)),(5,.sl (List.map Memb.cs r5.2.1)),(6,.int .i64 r5.2.2),(7,.int .i64 x155),(103,.bool x247)] [] 2) (fun k22 h=>?_) fun x247 h=>?_
  ·refine rg ?_
   refine kS 61 h rfl (fun h=>?_) fun h=>?_
   ·refine aI Link.cs h fun e248 h=>?_
    refine aI Link.cs h fun e249 h=>?_
    refine kS 74 h rfl (fun h=>?_) fun h=>?_
    ·iterate 27 refine ZN rfl (Zq ?_)
     exact jn true h (sR [])
    refine aI Link.cs h fun e250 h=>?_
    refine aI Link.cs h fun e251 h=>?_
    refine kS 87 h rfl (fun h=>?_) fun h=>?_
    ·refine aI Link.cs h fun e252 h=>?_
     refine aI Link.cs h fun e253 h=>?_
     refine aC h (Zl2 _ _) fun r254 h=>?_
     exact jn (!r254) h (sR [])
    iterate 13 refine ZN rfl (Zq ?_)
    exact jn false h (sR [])
   iterate 41 refine ZN rfl (Zq ?_)
   exact jn false h (sR [])
  refine cS h rfl (fun h=>?_) fun h=>?_
  ·refine rg ?_
   cases h
   exact rQ
  refine rg ?_
  exact rn (mf18,(w64 (x155+1))) h (sR [])
 refine rg ?_
 refine bl ?_
 refine ZW h fun f34 mf34 hf34 h=>?_
 refine ZH (α:=Nat×Int) (fun a _=>mkS [(5,.sl (List.map Memb.cs r5.2.1)),(6,.int .i64 r5.2.2),(8,.int .i64 a.2)] [] 2) (fun a=>Zbq a.1 f34 a.2=some r) (fun a=>a.1) (mf34,0) 2 h (sR []) (fun a _ h=>?_)
 obtain ⟨mf34,x301⟩:=a
 obtain ⟨mf34,rfl,h⟩:=ZX hf34 h
 dsimp only at h ⊢
 refine Zq ?_
 refine rg ?_
 refine lM Memb.cs r5.2.1 ?_
 refine cS h rfl (fun h=>?_) fun h=>?_
 ·refine bl ?_
  refine jL h (fun x326=>mkS [(5,.sl (List.map Memb.cs r5.2.1)),(6,.int .i64 r5.2.2),(8,.int .i64 x301),(136,.bool x326)] [] 2) (fun k36 h=>?_) fun x326 h=>?_
  ·refine rg ?_
   refine aI Memb.cs h fun e327 h=>?_
   refine kS 117 h rfl (fun h=>?_) fun h=>?_
   ·iterate 18 refine ZN rfl (Zq ?_)
    exact jn true h (sR [])
   refine kS 120 h rfl (fun h=>?_) fun h=>?_
   ·refine aI Memb.cs h fun e328 h=>?_
    refine aI Memb.cs h fun e329 h=>?_
    exact jn (!ltS e328.category.name e329.category.name) h (sR [])
   iterate 14 refine ZN rfl (Zq ?_)
   exact jn false h (sR [])
  refine cS h rfl (fun h=>?_) fun h=>?_
  ·refine rg ?_
   cases h
   exact rQ
  refine rg ?_
  exact rn (mf34,(w64 (x301+1))) h (sR [])
 refine jL h (fun x331=>mkS [(2,.bool x331)] [] 2) (fun k37 h=>?_) fun x331 h=>?_
 ·refine rg ?_
  refine kS 139 h rfl (fun h=>?_) fun h=>?_
  ·refine aC h Zjs fun r332 h=>?_
   exact jn r332 h (sR [])
  refine ZN rfl (Zq ?_)
  exact jn false h (sR [])
 cases h
 exact rQ
end Go.Proofs.YtmgfammllddkhaaGreatDoor
namespace Go.Proofs.YtmgfammllddkhaaGreatDoor
open VL Go.RowKit
def bs (l:List UInt8):ByteArray:=⟨l.toArray⟩
theorem ZtP (l:List UInt8):(bs l).size=l.length:=rfl
theorem ZuQ (a b:List UInt8):bs a++bs b=bs (a++b):=by
 apply ByteArray.ext
 rw [ByteArray.data_append]
 simp [bs]
theorem ZoI (a b:List UInt8):(bs (a++b)).extract 0 a.length=bs a:=by
 apply ByteArray.ext
 rw [ByteArray.data_extract]
 simp [bs]
theorem Za2 {α:Type} {x:Option α} {v:α} (h:Tot x (fun r=>r=v)):x=some v:=by
 obtain ⟨w,h1,h2⟩:=h
 rw [h1,h2]
theorem ZuR (p r:List UInt8):Zs (bs (p++r)) (bs p)=some true:=by
 have z1:(bs p).size=p.length:=rfl
 have z2:(bs (p++r)).size=p.length+r.length:=by rw [ZtP,List.length_append]
 refine Za2 ?_
 unfold Zs
 refine ZaM (Zj (fun _=>?_) fun h=>absurd (by omega) h)
 refine ZaT (by omega) (by omega) (by omega) fun m hm _=>?_
 have e:m=bs p:=hm.trans (ZoI p r)
 refine Zd ?_
 rw [e]
 simp
theorem ZsP {L:List UInt8} {n:Nat} {c:UInt8} (h:L[n]? = some c):atS (bs L) (n:Int)=some (c.toNat:Int):=by
 obtain ⟨hl,he⟩:=List.getElem?_eq_some_iff.1 h
 rw [ZpP (show n<(bs L).size from hl)]
 subst he
 rfl
theorem ZtQ (l:List UInt8) (n:Nat):(bs l).extract 0 n=bs (l.take n):=by
 apply ByteArray.ext
 rw [ByteArray.data_extract]
 simp [bs]
theorem ZuS {a b:List UInt8} (h:bs a=bs b):a=b:=congrArg (fun s:ByteArray=>s.data.toList) h
theorem Zjk (l:List UInt8) (n:Nat) (h:n≤l.length):ZfP (bs l) (n:Int) ((bs l).size:Int)=some (bs (l.drop n)):=by
 have z:(bs l).size=l.length:=rfl
 unfold ZfP
 rw [if_pos ⟨by omega,by omega,by omega⟩]
 have e:(((bs l).size:Int)).toNat=l.length:=by omega
 rw [e]
 congr 1
 apply ByteArray.ext
 rw [ByteArray.data_extract]
 simp [bs]
 rw [List.take_of_length_le (by simp)]
theorem ZtR (l:List UInt8) (a b:Nat) (h:a≤b) (h2:b≤l.length):ZfP (bs l) (a:Int) (b:Int)=some (bs ((l.take b).drop a)):=by
 have z:(bs l).size=l.length:=rfl
 unfold ZfP
 rw [if_pos ⟨by omega,by omega,by omega⟩]
 congr 1
 apply ByteArray.ext
 rw [ByteArray.data_extract]
 simp [bs,List.drop_take]
theorem Zmb (l p:List UInt8):Zs (bs l) (bs p)=some (p.isPrefixOf l):=by
 cases h:p.isPrefixOf l with
 | true=>
   obtain ⟨r,rfl⟩:=List.isPrefixOf_iff_prefix.1 h
   exact ZuR p r
 | false=>
   have z1:(bs p).size=p.length:=rfl
   have z2:(bs l).size=l.length:=rfl
   refine Za2 ?_
   unfold Zs
   refine ZaM (Zj (fun hl=>?_) fun _=>Zd rfl)
   refine ZaT (by omega) (by omega) (by omega) fun m hm _=>?_
   refine Zd (decide_eq_false fun he=>?_)
   have hq:(((bs p).size:Int)).toNat=p.length:=by omega
   rw [hq] at hm
   have h2:l.take p.length=p:=ZuS ((ZtQ l p.length).symm.trans (hm.symm.trans he))
   have h3:p.isPrefixOf l=true:=List.isPrefixOf_iff_prefix.2 (by rw [← h2];exact List.take_prefix _ _)
   rw [h] at h3
   cases h3
theorem Zdg (l p:List UInt8):ZF (bs l) (bs p)=some (p.isPrefixOf l):=by
 unfold ZF
 rw [Zmb]
 rfl
end Go.Proofs.YtmgfammllddkhaaGreatDoor
namespace Go.Proofs.YtmgfammllddkhaaGreatDoor
open VL
structure TapeF.ok (s:TapeF):Prop where
 len:s.l.length≤9223372036854775807
 pos:0≤s.pos
theorem Zu8 (v:Int):∃ q:Nat,IntKind.i64.wrap (BitVec.ofInt 64 v &&& BitVec.ofInt 64 16777215).toNat=(q:Int)∧q≤16777215:=by
 have h:(BitVec.ofInt 64 v &&& BitVec.ofInt 64 16777215).toNat≤16777215:=by
  rw [BitVec.toNat_and]
  exact Nat.le_trans Nat.and_le_right (by decide)
 generalize (BitVec.ofInt 64 v &&& BitVec.ofInt 64 16777215).toNat=q at h
 refine ⟨q,?_,h⟩
 rw [IntKind.wrap_i64]
 omega
theorem ZdH (s:TapeF) (n:Int) (hs:s.ok) (h0:0<n):Tot (Zbn s n) fun r=>(0≤r.1∧r.1<n)∧r.2.ok:=by
 have hl:=hs.len
 have hp:=hs.pos
 unfold Zbn
 refine Zj (fun _=>Zd ⟨⟨Int.le_refl _,h0⟩,hs⟩) fun h=>?_
 refine Zfv hp (by omega) fun e _ _=>?_
 refine Zry (by omega) ?_
 obtain ⟨q,hq,_⟩:=Zu8 e
 have e1:ZuH .and .i64 e 16777215=(q:Int):=hq
 rw [e1]
 refine Zd ⟨⟨Int.tmod_nonneg n (by omega),Int.tmod_lt_of_pos _ h0⟩,⟨hl,?_⟩⟩
 show 0≤w64 (s.pos+1)
 rw [ZaO (by omega) (by omega)]
 omega
theorem Zuf {n:Nat} (s:TapeF) (L:List ByteArray) (hs:s.ok) (h0:0<L.length) (h:∀ x ∈ L,x.size≤n):Tot (ZI s L) fun r=>r.1.size≤n∧r.2.ok:=by
 unfold ZI
 refine Zu (ZdH s _ hs (by omega)) fun r hr=>?_
 exact Zfv hr.1.1 hr.1.2 fun e he _=>Zd ⟨h e he,hr.2⟩
theorem Zo8 (s:TapeF) (L:List ByteArray) (hs:s.ok) (h:(decide (0<L.length)&&L.all fun x=>decide (x.size≤30))=true):Tot (ZI s L) fun r=>r.1.size≤30∧r.2.ok:=by
 rw [Bool.and_eq_true] at h
 exact Zuf s L hs (of_decide_eq_true h.1) fun x hx=>of_decide_eq_true (List.all_eq_true.1 h.2 x hx)
theorem Zsw (s:TapeF) (hs:s.ok):Tot (ZbB s) fun r=>r.1.size≤10∧r.2.ok:=by
 unfold ZbB ZI
 refine Zu (Q:=fun r=>r.1.size≤10∧r.2.ok) (Zu (ZdH s _ hs (by decide)) fun r hr=>Zfv hr.1.1 hr.1.2 fun e he _=>Zd ⟨?_,hr.2⟩) fun r hr=>Zd hr
 have h:∀ x ∈ [(⟨#[97]⟩:ByteArray),(⟨#[120,32,121]⟩:ByteArray),(⟨#[49,50]⟩:ByteArray),(⟨#[]⟩:ByteArray),(⟨#[98]⟩:ByteArray),(⟨#[48]⟩:ByteArray),(⟨#[45,51]⟩:ByteArray),(⟨#[65,98]⟩:ByteArray),(⟨#[32]⟩:ByteArray),(⟨#[122]⟩:ByteArray)],x.size≤10:=by decide
 exact h e he
theorem Zvp {β:Type} {a b:ByteArray} {n m:Nat} {f:ByteArray→Option β} {R:β→Prop} (ha:a.size≤n) (hb:b.size≤m) (h:n+m≤1000000) (k:(a++b).size≤n+m→Tot (f (a++b)) R):Tot ((Zbk a b).bind f) R:=
 Zdx (by omega) fun hz=>k (by omega)
def PB:Nat→Nat
 | 0=>10
 | n+1=>400+3 * PB n
set_option maxHeartbeats 4000000 in
theorem Zo9:∀ (m:Nat) (s:TapeF) (d:Nat),d<m→d≤3→s.ok→Tot (ZJ m s (d:Int)) fun r=>r.1.size≤PB d∧r.2.ok
 | 0,_,_,h,_,_=>absurd h (Nat.not_lt_zero _)
 | m+1,s,0,_,_,hs=>by
   unfold ZJ
   refine Zj (fun _=>?_) fun h=>absurd (by decide) h
   exact Zu (Zsw s hs) fun r hr=>Zd hr
 | m+1,s,d+1,hm,hd,hs=>by
   have ih:∀ s:TapeF,s.ok→Tot (ZJ m s (d:Int)) fun r=>r.1.size≤PB d∧r.2.ok:=fun s hs=>Zo9 m s d (by omega) (by omega) hs
   have hw:w64 (((d+1:Nat):Int) - 1)=(d:Int):=by rw [ZaO (by omega) (by omega)];omega
   have hB:PB d≤10000:=by
    match d,hd with
    | 0,_=>decide
    | 1,_=>decide
    | 2,_=>decide
   have hP:PB (d+1)=400+3 * PB d:=rfl
   rw [hP]
   generalize PB d=B at ih hB
   unfold ZJ
   refine Zj (fun h=>absurd h (by omega)) fun _=>?_
   simp only [hw]
   refine Zu (ZdH s 24 hs (by decide)) fun r3 h3=>?_
   obtain ⟨_,h3⟩:=h3
   repeat' (refine Zj (fun _=>?_) fun _=>?_)
   all_goals (repeat (first
    | (refine Zvp (by first | assumption | exact (show _≤30 by decide)) (by first | assumption | exact (show _≤30 by decide)) (by omega) fun _=>?_)
    | (refine Zu (ih _ (by assumption)) fun r hr=>?_;obtain ⟨_,_⟩:=hr)
    | (refine Zu (Zo8 _ _ (by assumption) (by decide)) fun r hr=>?_;obtain ⟨_,_⟩:=hr)
    | (refine Zu (Zsw _ (by assumption)) fun r hr=>?_;obtain ⟨_,_⟩:=hr)
    | (refine Zu (Zuf (n:=60) _ _ (by assumption) (by simp) fun x hx=>by
      simp only [List.mem_cons,List.not_mem_nil,or_false] at hx
      rcases hx with rfl | rfl | rfl | rfl | rfl | rfl | rfl | rfl | rfl | rfl<;>first | decide | omega) fun r hr=>?_;obtain ⟨_,_⟩:=hr)))
   all_goals exact Zd ⟨by dsimp only;omega,by assumption⟩
theorem Zug (s:TapeF) (hs:s.ok):Tot (Zc9 s 3) fun r=>r.1.size≤30000∧r.2.ok:=by
 unfold Zc9
 have hB:PB 3=5470:=rfl
 refine Zu (Zo8 _ _ hs (by decide)) fun r1 h1=>?_
 obtain ⟨h1,h2⟩:=h1
 refine Zan (fun x=>(0≤x.2.1∧x.2.1≤3)∧(x.1.size:Int)≤30+6000 * x.2.1∧TapeF.ok ⟨x.2.2.1,x.2.2.2⟩) (fun x=>4 - x.2.1.toNat) ⟨⟨by simp,by simp⟩,by simp;omega,h2⟩ (by dsimp only;omega) ?_
 rintro ⟨t,i,l,p⟩ rec ⟨⟨g0,g1⟩,g2,g3⟩ ih
 dsimp only at g0 g1 g2 g3 ih ⊢
 refine Zu (ZdH _ 3 g3 (by decide)) fun r35 h35=>?_
 obtain ⟨⟨k0,k1⟩,k2⟩:=h35
 refine Zj (fun hle=>?_) fun _=>Zd ⟨by dsimp only;omega,k2⟩
 refine Zu (Zo9 8 r35.2 3 (by decide) (by decide) k2) fun r38 h38=>?_
 obtain ⟨q1,q2⟩:=h38
 refine Zdx (by omega) fun hz=>?_
 rw [ZaO (by omega) (by omega)]
 exact ih _ ⟨⟨by dsimp only;omega,by dsimp only;omega⟩,by dsimp only;omega,q2⟩ (by dsimp only;omega)
theorem Zuh (s:TapeF) (hs:s.ok):Tot (Zda s 3) fun _=>True:=by
 unfold Zda
 refine Zu (Zo8 _ _ hs (by decide)) fun r1 h1=>?_
 obtain ⟨h1,h2⟩:=h1
 refine Zu (ZdH _ 5 h2 (by decide)) fun r2 h2=>?_
 obtain ⟨⟨k0,k1⟩,k2⟩:=h2
 refine Zan (fun x=>(0≤x.2.1∧x.2.1≤5)∧(x.1.size:Int)≤30+40000 * x.2.1∧TapeF.ok ⟨x.2.2.1,x.2.2.2⟩) (fun x=>6 - x.2.1.toNat) ⟨⟨by simp,by simp⟩,by simp;omega,k2⟩ (by dsimp only;omega) ?_
 rintro ⟨t,i,l,p⟩ rec ⟨⟨g0,g1⟩,g2,g3⟩ ih
 dsimp only at g0 g1 g2 g3 ih ⊢
 refine Zj (fun hle=>?_) fun _=>Zd trivial
 refine Zap (fun q=>∀ x:ByteArray,(x.size:Int)≤40+40000 * i→Tot (q x) (fun _=>True)) (fun x hx=>?_) fun k21 hk21=>?_
 ·refine Zu (ZdH _ 4 g3 (by decide)) fun r232 h232=>?_
  obtain ⟨_,k3⟩:=h232
  refine Zap (fun q=>∀ (y:ByteArray) (l:List Int) (p:Int),(y.size:Int)≤400+40000 * i→TapeF.ok ⟨l,p⟩→Tot (q y l p) (fun _=>True)) (fun y l p hy hlp=>?_) fun k22 hk22=>?_
  ·refine Zu (Zug _ hlp) fun r242 h242=>?_
   obtain ⟨z1,z2⟩:=h242
   refine Zdx (by omega) fun hz=>?_
   rw [ZaO (by omega) (by omega)]
   exact ih _ ⟨⟨by dsimp only;omega,by dsimp only;omega⟩,by dsimp only;omega,z2⟩ (by dsimp only;omega)
  ·refine Zj (fun _=>?_) fun _=>hk22 _ _ _ (by omega) k3
   refine Zu (Zo8 _ _ k3 (by decide)) fun r244 h244=>?_
   obtain ⟨z1,z2⟩:=h244
   refine Zdx (by omega) fun hz=>?_
   refine Zu (Zo8 _ _ z2 (by decide)) fun r246 h246=>?_
   obtain ⟨z3,z4⟩:=h246
   refine Zdx (by omega) fun hz2=>Zdx (by omega) fun hz3=>?_
   have e1:(⟨#[10]⟩:ByteArray).size=1:=rfl
   refine Zdx (by omega) fun hz4=>?_
   exact hk22 _ _ _ (by omega) z4
 ·have e1:(⟨#[10]⟩:ByteArray).size=1:=rfl
  refine Zj (fun _=>?_) fun _=>hk21 _ (by omega)
  exact Zdx (by omega) fun hz=>hk21 _ (by omega)
theorem ZhU (o:List UInt8) (c:UInt8):∀ (k:Nat) (s:List UInt8),(Lib.replaceK o [c] k s).length≤s.length+k
 | 0,s=>by rw [Lib.replaceK];omega
 | k+1,s=>by
   rw [Lib.replaceK]
   split
   ·omega
   ·have:=ZhU o c k (s.drop ((Lib.index s o).toNat+o.length))
    simp only [List.length_append,List.length_take,List.length_drop,List.length_singleton] at this ⊢
    omega
theorem ZpV (p:ByteArray) (h:p.size≤300000):Tot (Zbe p ⟨#[95]⟩ ⟨#[32]⟩) fun r=>r.size≤600000:=by
 have hc:Lib.countB p ⟨#[95]⟩≤p.size:=by
  have h:=Lib.countB_mul_le ⟨#[95]⟩ (by decide) p.size p (Nat.le_refl _)
  have e:(⟨#[95]⟩:ByteArray).size=1:=rfl
  rw [e] at h
  omega
 have e1:(⟨#[32]⟩:ByteArray).size=1:=rfl
 have e2:(⟨#[95]⟩:ByteArray).size=1:=rfl
 unfold Zbe
 rw [if_pos ⟨⟨by omega,by omega⟩,by rw [e1];omega⟩]
 refine Zd ?_
 show (Lib.replaceAll p.data.toList [95] [32]).length≤600000
 have e3:Lib.replaceAll p.data.toList [95] [32]=Lib.replaceK [95] [32] (Lib.countB p ⟨#[95]⟩) p.data.toList:=rfl
 rw [e3]
 have:=ZhU [95] 32 (Lib.countB p ⟨#[95]⟩) p.data.toList
 have e4:p.data.toList.length=p.size:=rfl
 omega
theorem Zto (a b:ByteArray) (h:a.size≤1000000):Tot (Zs a b) fun r=>r=true→b.size≤a.size:=by
 unfold Zs
 refine ZaM (Zj (fun hl=>?_) fun _=>Zd fun h=>by cases h)
 exact ZaT (by omega) (by omega) (by omega) fun m _ _=>Zd fun _=>by omega
theorem ZrR (a b:ByteArray) (h:a.size≤1000000):Tot (ZF a b) fun r=>r=true→b.size≤a.size:=by
 unfold ZF
 exact Zu (Zto a b h) fun r hr=>Zd hr
theorem ZlI (a b:ByteArray) (h:a.size≤1000000):Tot (Za0 a b) fun r=>r.size≤a.size:=by
 unfold Za0 Zar
 refine Zu (Q:=fun r=>r.size≤a.size) (Zu (Zto a b h) fun r hr=>?_) fun r hr=>Zd hr
 refine ZZ (fun e=>?_) fun _=>Zd (Nat.le_refl _)
 have:=hr e
 exact ZaT (by omega) (by omega) (by omega) fun m _ hm=>Zd (by omega)
theorem ZpW (a b:ByteArray) (h:a.size≤1000000):Tot (strings_TrimSuffix a b) fun r=>r.size≤a.size:=by
 unfold strings_TrimSuffix Zaq
 refine Zu (Q:=fun r=>r.size≤a.size) (Zu (Q:=fun r=>r=true→b.size≤a.size) ?_ fun r hr=>?_) fun r hr=>Zd hr
 ·unfold Zax
  refine ZaM (Zj (fun hl=>?_) fun _=>Zd fun h=>by cases h)
  rw [ZaO (by omega) (by omega)]
  exact ZaT (by omega) (by omega) (by omega) fun m _ _=>Zd fun _=>by omega
 ·refine ZZ (fun e=>?_) fun _=>Zd (Nat.le_refl _)
  have:=hr e
  rw [ZaO (by omega) (by omega)]
  exact ZaT (by omega) (by omega) (by omega) fun m _ hm=>Zd (by omega)
theorem ZrS (p:ByteArray) (h:p.size≤600000):Tot (Zdi p) fun r=>r.size≤600000:=by
 unfold Zdi
 refine Zb (v:=()) (by unfold ZrN;rw [if_pos ⟨by omega,by omega,by omega⟩]) ?_
 refine Zan (fun x=>0≤x.1∧x.1≤(p.size:Int)∧(x.2.length:Int)≤x.1) (fun x=>p.size - x.1.toNat) ⟨by simp,by simp,by simp⟩ (by omega) ?_
 rintro ⟨i,l⟩ rec ⟨h0,h1,h2⟩ ih
 dsimp only at h0 h1 h2 ih ⊢
 refine Zj (fun hlt=>?_) fun _=>?_
 ·refine Zap (fun q=>∀ m:List Int,(m.length:Int)≤i+1→Tot (q m) (fun r=>r.size≤600000)) (fun m hm=>?_) fun k19 h19=>?_
  ·rw [ZaO (by omega) (by omega)]
   exact ih _ ⟨by dsimp only;omega,by dsimp only;omega,by dsimp only;omega⟩ (by dsimp only;omega)
  ·refine Zap (fun q=>∀ b:Bool,Tot (q b) (fun r=>r.size≤600000)) (fun b=>?_) fun k20 h20=>?_
   ·refine ZZ (fun _=>?_) fun _=>h19 _ (by omega)
    refine ZdZ h0 hlt fun c _ _ _=>?_
    exact Zic 700000 (by simp only [List.length_singleton];omega) (by omega) (by omega) (h19 _ (by simp only [List.length_append,List.length_singleton];omega))
   ·refine ZdZ h0 hlt fun c _ _ _=>?_
    refine ZdY (fun _=>h20 _) fun _=>Zj (fun hl=>?_) fun _=>h20 _
    rw [ZaO (by omega) (by omega)]
    exact Zfv (by omega) (by omega) fun e _ _=>h20 _
 ·have hz:(strOfNums l).size=l.length:=strOfNums_size l
  exact Zu (ZpW _ _ (by omega)) fun r hr=>Zd (by omega)
theorem Ztp (a:ByteArray) (c:Int) (h:a.size≤1000000):Tot (Za5 a c) fun r=>r.size≤a.size:=by
 unfold Za5
 refine Zan (fun x=>x.size≤a.size) (fun x=>x.size) (Nat.le_refl _) (by omega) fun x rec hJ ih=>?_
 refine Zap (fun q=>∀ b:Bool,(b=true→0<x.size)→Tot (q b) (fun r=>r.size≤a.size)) (fun b hb=>?_) fun k hk=>?_
 ·refine ZZ (fun e=>?_) fun _=>Zd hJ
  have:=hb e
  exact ZaT (by omega) (by omega) (by omega) fun m _ hm=>ih _ (by omega) (by omega)
 ·refine Zj (fun hl=>?_) fun _=>hk _ fun h=>by cases h
  exact ZdZ (by omega) (by omega) fun c _ _ _=>hk _ fun _=>by omega
theorem ZrT (a:ByteArray) (c:Int) (h:a.size≤1000000):Tot (ZaW a c) fun r=>r.size≤a.size:=by
 unfold ZaW
 refine Zan (fun x=>x.size≤a.size) (fun x=>x.size) (Nat.le_refl _) (by omega) fun x rec hJ ih=>?_
 refine Zap (fun q=>∀ b:Bool,(b=true→0<x.size)→Tot (q b) (fun r=>r.size≤a.size)) (fun b hb=>?_) fun k hk=>?_
 ·refine ZZ (fun e=>?_) fun _=>Zd hJ
  have:=hb e
  rw [ZaO (by omega) (by omega)]
  exact ZaT (by omega) (by omega) (by omega) fun m _ hm=>ih _ (by omega) (by omega)
 ·refine Zj (fun hl=>?_) fun _=>hk _ fun h=>by cases h
  rw [ZaO (by omega) (by omega)]
  exact ZdZ (by omega) (by omega) fun c _ _ _=>hk _ fun _=>by omega
theorem Zuy (a:ByteArray) (h:a.size≤1000000):Tot (ZbN a ⟨#[32]⟩) fun r=>r.size≤a.size:=by
 unfold ZbN
 refine Zap (fun q=>∀ b:Bool,Tot (q b) (fun r=>r.size≤a.size)) (fun b=>?_) fun k hk=>Zj (fun _=>hk _) fun _=>hk _
 refine ZZ (fun _=>Zd (Nat.le_refl _)) fun _=>ZaM ?_
 refine Zj (fun _=>?_) fun h=>absurd rfl h
 refine Zb (v:=32) rfl ?_
 refine ZZ (fun _=>?_) fun h=>by cases h
 exact Zb (v:=32) rfl (Zu (Ztp a 32 h) fun r hr=>Zd hr)
theorem Ztq (a:ByteArray) (h:a.size≤1000000):Tot (ZbA a ⟨#[32]⟩) fun r=>r.size≤a.size:=by
 unfold ZbA
 refine Zap (fun q=>∀ b:Bool,Tot (q b) (fun r=>r.size≤a.size)) (fun b=>?_) fun k hk=>Zj (fun _=>hk _) fun _=>hk _
 refine ZZ (fun _=>Zd (Nat.le_refl _)) fun _=>ZaM ?_
 refine Zj (fun _=>?_) fun h=>absurd rfl h
 refine Zb (v:=32) rfl ?_
 refine ZZ (fun _=>?_) fun h=>by cases h
 exact Zb (v:=32) rfl (Zu (ZrT a 32 h) fun r hr=>Zd hr)
theorem ZpX (n:Nat):∀ (l:List ByteArray),(∀ a ∈ l,a.size≤n)→Lib.lens (l.map (·.data.toList))≤n * l.length
 | [],_=>Nat.zero_le _
 | a::l,h=>by
   have h1:=ZpX n l fun b hb=>h b (List.mem_cons_of_mem _ hb)
   have h2:=h a List.mem_cons_self
   have e:Lib.lens ((a::l).map (·.data.toList))=a.size+Lib.lens (l.map (·.data.toList)):=by simp [Lib.lens]
   rw [e,List.length_cons,Nat.mul_succ]
   omega
theorem ZpY (p:ByteArray) (h:p.size≤600000):Tot (ZcG p) fun r=>r.size≤10000000000000:=by
 have hc:=Zmd p
 unfold ZcG strings_Split
 rw [if_pos ⟨⟨by omega,by decide⟩,by omega⟩]
 have hl:=Lib.splitB_all ⟨#[47]⟩ (by decide) 0 _ p rfl
 have hs:=Ze9 ⟨#[47]⟩ (Lib.countB p ⟨#[47]⟩) p
 generalize Lib.splitB ⟨#[47]⟩ 0 (Lib.countB p ⟨#[47]⟩) p=L at hl hs ⊢
 refine Zb rfl ?_
 refine Zan (fun x=>0≤x.1∧x.2.length=L.length∧∀ a ∈ x.2,a.size≤600000) (fun x=>L.length - x.1.toNat) ⟨by simp,rfl,fun a ha=>Nat.le_trans (hs a ha) h⟩ (by dsimp only;omega) ?_
 rintro ⟨i,l⟩ rec ⟨h0,h1,h2⟩ ih
 dsimp only at h0 h1 h2 ih ⊢
 refine Zj (fun hlt=>?_) fun _=>?_
 ·refine Zap (fun q=>∀ m:List ByteArray,m.length=L.length→(∀ a ∈ m,a.size≤600000)→Tot (q m) (fun r=>r.size≤10000000000000)) (fun m hm hm2=>?_) fun k15 h15=>?_
  ·rw [ZaO (by omega) (by omega)]
   exact ih _ ⟨by dsimp only;omega,hm,hm2⟩ (by dsimp only;omega)
  ·refine Zap (fun q=>∀ m:List ByteArray,m.length=L.length→(∀ a ∈ m,a.size≤600000)→Tot (q m) (fun r=>r.size≤10000000000000)) (fun m hm hm2=>?_) fun k16 h16=>?_
   ·rw [ZaO (by omega) (by omega)]
    refine Zj (fun _=>?_) fun _=>h15 _ hm hm2
    refine Zfv h0 (by omega) fun e he hi=>Zu (Ztq e (by have:=hm2 e he;omega)) fun r hr=>Zfv h0 (by omega) fun _ _ _=>h15 _ ?_ ?_
    ·unfold ZeX
     rw [List.length_set];exact hm
    ·intro a ha
     rcases List.mem_or_eq_of_mem_set ha with ha | rfl
     ·exact hm2 a ha
     ·exact Nat.le_trans hr (hm2 e he)
   ·refine Zj (fun _=>?_) fun _=>h16 _ h1 h2
    refine Zfv h0 (by omega) fun e he hi=>Zu (Zuy e (by have:=h2 e he;omega)) fun r hr=>Zfv h0 (by omega) fun _ _ _=>h16 _ ?_ ?_
    ·unfold ZeX
     rw [List.length_set];exact h1
    ·intro a ha
     rcases List.mem_or_eq_of_mem_set ha with ha | rfl
     ·exact h2 a ha
     ·exact Nat.le_trans hr (h2 e he)
 ·have hz:(Lib.join (l.map (·.data.toList)) [47]).length≤10000000000000:=by
   have j2:=ZpX 600000 l h2
   cases l with
   | nil=>exact Nat.zero_le _
   | cons a l=>
     rw [List.map_cons] at j2 ⊢
     rw [Lib.join_length,List.length_map]
     simp only [List.length_cons,List.length_nil] at *
     omega
  unfold strings_Join
  rw [if_pos ⟨⟨by omega,by omega⟩,by exact Nat.le_trans hz (by omega)⟩]
  exact Zb rfl (Zd hz)
theorem ZmS {s:List UInt8} {n:Int} {r:List UInt8} (h:ZbF s=some (n,r)):r.length≤s.length:=by
 unfold ZbF at h
 split at h
 ·have e:=(Prod.mk.inj (Option.some.inj h)).2
  rw [← e]
  unfold Lib.cut
  split
  ·simp only [List.length_drop];omega
  ·simp
 ·cases h
theorem ZsI {a:ByteArray} (h:a≠⟨#[]⟩):0<a.size:=by
 refine Nat.pos_of_ne_zero fun h0=>h ?_
 obtain ⟨⟨l⟩⟩:=a
 have:l = []:=List.eq_nil_of_length_eq_zero h0
 rw [this]
theorem Ztr (p:ByteArray) (h:p.size≤300000):Tot (Zef p) fun r=>r.2=0→r.1.valid=true:=by
 unfold Zef
 refine Zu (ZpV p h) fun r1 h1=>Zu (ZrS r1 h1) fun r2 h2=>Zu (ZrR r2 _ (by omega)) fun r3 h3=>?_
 refine Zap (fun q=>∀ x:ByteArray,x.size≤600000→Tot (q x) (fun r=>r.2=0→r.1.valid=true)) (fun x hx=>?_) fun k1 hk1=>?_
 ·refine Zu (Q:=fun r=>r.2.1.size≤600000) ?_ fun r7 h7=>?_
  ·unfold Zeo
   rw [if_pos (by omega)]
   cases hp:ZbF x.data.toList with
   | none=>exact Zd (by show 0≤600000;omega)
   | some q=>exact Zd (by have:=ZmS hp;have e:x.data.toList.length=x.size:=rfl;show q.2.length≤600000;omega)
  ·refine Zap (fun q=>∀ (y:ByteArray) (n:Int),y.size≤600000→Tot (q y n) (fun r=>r.2=0→r.1.valid=true)) (fun y n hy=>?_) fun k2 hk2=>?_
   ·refine Zu (ZpY y hy) fun r11 h11=>?_
    refine Zap (fun q=>∀ b:Bool,(b=true→r11≠⟨#[]⟩)→Tot (q b) (fun r=>r.2=0→r.1.valid=true)) (fun b hb=>?_) fun k3 hk3=>?_
    ·refine Zap (fun q=>∀ z:ByteArray,Tot (q z) (fun r=>r.2=0→r.1.valid=true)) (fun z=>?_) fun k4 hk4=>?_
     ·refine Zj (fun _=>Zd fun h=>by cases h) fun _=>?_
      exact Zb rfl (ZZ (fun _=>Zd fun h=>by cases h) fun hv=>Zd fun _=>by simpa using hv)
     ·refine ZZ (fun e=>?_) fun _=>hk4 _
      have hn:=ZsI (hb e)
      refine ZdZ (by omega) (by omega) fun c _ _ _=>?_
      refine ZaT (by omega) (by omega) (by omega) fun m _ hm=>?_
      exact Zdx (by rw [strOfNums_size];simp only [List.length_singleton];omega) fun _=>hk4 _
    ·refine ZdY (fun hne=>?_) fun _=>hk3 _ fun h=>by cases h
     have hn:=ZsI hne
     refine ZdZ (by omega) (by omega) fun c _ _ _=>?_
     refine Zj (fun _=>?_) fun _=>hk3 _ fun h=>by cases h
     exact ZdZ (by omega) (by omega) fun c _ _ _=>hk3 _ fun _=>hne
   ·refine ZZ (fun _=>?_) fun _=>hk2 _ _ hx
    exact Zu (ZlI _ _ (by omega)) fun r hr=>hk2 _ _ (by omega)
 ·refine ZZ (fun e=>?_) fun _=>hk1 _ h2
  have hz:=h3 e
  have e1:(⟨#[58]⟩:ByteArray).size=1:=rfl
  refine ZaT (by omega) (by omega) (by omega) fun m _ hm=>?_
  exact Zu (ZlI _ _ (by omega)) fun r hr=>hk1 _ (by omega)
theorem Zqn (p:ByteArray) (h:p.size≤1000000):Tot (ZeH p) fun r=>r = -1∨(0≤r∧r<(p.size:Int)):=by
 unfold ZeH
 refine Zan (fun i=>0≤i) (fun i=>p.size - i.toNat) (by omega) (by omega) fun i rec h0 ih=>?_
 refine Zj (fun hlt=>?_) fun _=>Zd (.inl rfl)
 refine Zap (fun q=>∀ b:Bool,Tot (q b) (fun r=>r = -1∨(0≤r∧r<(p.size:Int)))) (fun b=>?_) fun k hk=>?_
 ·refine ZZ (fun _=>Zd (.inr ⟨h0,hlt⟩)) fun _=>?_
  rw [ZaO (by omega) (by omega)]
  exact ih _ (by omega) (by omega)
 ·refine ZdZ h0 hlt fun c _ _ _=>Zj (fun _=>hk _) fun _=>?_
  refine ZdZ h0 hlt fun c _ _ _=>Zj (fun _=>?_) fun _=>hk _
  rw [ZaO (by omega) (by omega)]
  refine Zj (fun h1=>?_) fun _=>hk _
  exact ZdZ (by omega) h1 fun c _ _ _=>hk _
theorem ZuG (p c:ByteArray) (h:p.size≤1000000):Tot (strings_Cut p c) fun r=>r.1.size≤p.size:=by
 unfold strings_Cut
 rw [if_pos (by omega)]
 refine Zd ?_
 show (Lib.cut p.data.toList c.data.toList).1.length≤p.size
 have e:p.data.toList.length=p.size:=rfl
 unfold Lib.cut
 split
 ·show (List.take _ _).length≤_
  rw [List.length_take];omega
 ·exact Nat.le_of_eq e
theorem Zqo (p:ByteArray) (h:p.size≤1000000) (h0:0<p.size):Tot (Zcv p) fun _=>True:=by
 unfold Zcv
 refine ZdZ (by omega) (by omega) fun c _ _ _=>ZdY (fun _=>Zd trivial) fun _=>?_
 refine ZaT (by omega) (by omega) (by omega) fun m _ hm=>Zu (ZuG m _ (by omega)) fun r3 h3=>ZZ (fun _=>Zd trivial) fun _=>?_
 refine Zu (Q:=fun _=>True) ?_ fun r _=>Zd trivial
 unfold Zcl Zcy
 rw [if_pos ⟨by omega,rfl⟩]
 exact Zb rfl (Zd trivial)
theorem Zil (a b:ByteArray):Tot (ZF a b) fun _=>True:=by
 unfold ZF Zs
 refine Zu (Q:=fun _=>True) ?_ fun r _=>Zd trivial
 exact ZaM (Zj (fun hl=>ZaT (by omega) (by omega) (by omega) fun m _ _=>Zd trivial) fun _=>Zd trivial)
theorem Zr9 (a b:ByteArray) (h:a.size≤1000000):Tot (strings_Contains a b) fun _=>True:=by
 unfold strings_Contains
 rw [if_pos (by omega)]
 exact Zd trivial
def ZmV (m:Nat) (f:Finder) (n:Node):Option Finder:=
 if n.kind=1 then ZaI f n.text
 else if n.kind=6∧¬ n.tag=2 then (Zbh n.kids).bind fun l=>ZaJ m f l
 else some f
def Zh6 {α β:Type} (step:β→α→Option β):List α→β→Option β
 | [],c=>some c
 | x::l,c=>(step c x).bind fun c'=>Zh6 step l c'
theorem ZlP {α β:Type} (step:β→α→Option β):∀ (l:List α) (c:β),goL (fun e c k=>(step c e).bind k) (fun c=>some c) l c=Zh6 step l c
 | [],c=>rfl
 | x::l,c=>by
   show ((step c x).bind fun c'=>goL (fun e c k=>(step c e).bind k) (fun c=>some c) l c')=_
   unfold Zh6
   congr 1
   funext c'
   exact ZlP step l c'
theorem Zp4 {α:Type} {l:List α} {n:Nat} {e:α} (h:l[n]? = some e):atI l (n:Int)=some e:=by
 unfold atI
 rw [if_pos (by omega),Int.toNat_natCast,h]
theorem ZrW (m:Nat) (f:Finder) (l:List Node) (hl:l.length≤4611686018427387900):ZaJ (m+1) f l=Zh6 (ZmV m) l f:=by
 rw [← ZlP]
 simp only [ZaJ]
 refine ZrK l (fun n (c:Finder)=>((n:Int),c.links,c.members)) _ _ hl f (fun n e rec c he hn=>?_) (fun rec c=>?_)
 ·have hlt:=(List.getElem?_eq_some_iff.1 he).1
  dsimp only
  rw [if_pos (decide_eq_true (show (n:Int)<(l.length:Int) by omega)),Zp4 he]
  have hw:w64 ((n:Int)+1)=((n+1:Nat):Int):=by rw [ZaO (by omega) (by omega)];rfl
  simp only [letk,Option.bind_some,hw,ZmV]
  by_cases h1:e.kind=1
  ·rw [if_pos (decide_eq_true h1),if_pos h1]
  ·rw [if_neg (by rw [decide_eq_false h1];decide),if_neg h1]
   by_cases h6:e.kind=6
   ·rw [if_pos (decide_eq_true h6)]
    by_cases h2:e.tag=2
    ·rw [decide_eq_true h2,if_neg (by decide),if_neg (fun h=>h.2 h2)]
     rfl
    ·rw [decide_eq_false h2,if_pos (by decide),if_pos ⟨h6,h2⟩]
     cases Zbh e.kids with
     | none=>rfl
     | some k=>rfl
   ·rw [if_neg (by rw [decide_eq_false h6];decide),if_neg (by decide),if_neg (fun h=>h6 h.1)]
    rfl
 ·dsimp only
  rw [if_neg (by rw [decide_eq_false (by omega)];decide)]
def ZkW (m:Nat) (f:Finder) (a:Arg):Option Finder:=(Zbh a.name).bind fun l=>(Zt m f l).bind fun f=>(Zbh a.value).bind fun l=>Zt m f l
def Zih (f:Finder) (n:Node):Option Finder:=
 if n.kind=4 then (Zbh n.kids).bind fun l=>(Zbs l).bind fun r=>if r.2=true then (Zjw 32 f.links [(⟨2,r.1⟩:Link)]).map fun l=>⟨l,f.members⟩ else some f
 else some f
def ZgX (m:Nat) (f:Finder) (n:Node):Option Finder:=
 if n.kind=6∧n.tag=2 then some f
 else (Zih f n).bind fun f=>(Zbh n.kids).bind fun l=>(Zt m f l).bind fun f=>(ZlV n.args).bind fun l=>if l.length≤4611686018427387900 then Zh6 (ZkW m) l f else none
theorem Zp5 {α:Type} {l:List α} {n:Nat} (h:n<l.length):∃ e,l[n]? = some e∧l.drop n=e::l.drop (n+1):=⟨_,List.getElem?_eq_getElem h,List.drop_eq_getElem_cons h⟩
theorem Ztt {β:Type} {m:Nat} {l:List Arg} {c2 c':Finder} {k:List Link→List Memb→Option β} {R:β→Prop} (hl:l.length≤4611686018427387900) (h:Zh6 (ZkW m) l c2=some c') (hk:Tot (k c'.links c'.members) R) :
  Tot (Zbq Zel (fun f22 ((x254,x255,x256):Int×(List Link)×(List Memb))=>
   if (decide (x254<(l.length:Int))) then
    (atI l x254).bind fun e272=>
    (Zbh e272.name).bind fun l273=>
    (Zt m (⟨x255,x256⟩:Finder) l273).bind fun r274=>
    (Zbh e272.value).bind fun l275=>
    (Zt m r274 l275).bind fun r276=>
    f22 ((w64 (x254+1)),r276.links,r276.members)
   else
   k x255 x256) (0,c2.links,c2.members)) R:=by
 refine Zan (fun a=>∃ (n:Nat) (c:Finder),a=((n:Int),c.links,c.members)∧n≤l.length∧Zh6 (ZkW m) (l.drop n) c=some c') (fun a=>l.length - a.1.toNat) ⟨0,c2,rfl,Nat.zero_le _,h⟩ (by dsimp only;omega) ?_
 rintro a rec ⟨n,c,rfl,hn,hc⟩ ih
 dsimp only at ih ⊢
 refine Zj (fun hlt=>?_) (fun hge=>?_)
 ·obtain ⟨e,he,hd⟩:=Zp5 (show n<l.length by omega)
  rw [hd] at hc
  obtain ⟨c1,h1,h2⟩:=Option.bind_eq_some_iff.1 hc
  obtain ⟨l1,h3,h1⟩:=Option.bind_eq_some_iff.1 h1
  obtain ⟨c3,h4,h1⟩:=Option.bind_eq_some_iff.1 h1
  obtain ⟨l2,h5,h6⟩:=Option.bind_eq_some_iff.1 h1
  refine Zb (Zp4 he) (Zb h3 (Zb h4 (Zb h5 (Zb h6 ?_))))
  rw [ZaO (by omega) (by omega)]
  exact ih _ ⟨n+1,c1,rfl,by omega,h2⟩ (by omega)
 ·obtain rfl:n=l.length:=by omega
  rw [List.drop_length] at hc
  injection hc with hc
  subst hc
  exact hk
theorem Ztu {m:Nat} {f r:Finder} {l:List Node} (hl:l.length≤4611686018427387900) (h:Zh6 (ZgX m) l f=some r):Zt (m+1) f l=some r:=by
 refine Za2 ?_
 simp only [Zt]
 refine Zan (fun a=>∃ (n:Nat) (c:Finder),a=((n:Int),c.links,c.members)∧n≤l.length∧Zh6 (ZgX m) (l.drop n) c=some r) (fun a=>l.length - a.1.toNat) ⟨0,f,rfl,Nat.zero_le _,h⟩ (by dsimp only;omega) ?_
 rintro a rec ⟨n,c,rfl,hn,hc⟩ ih
 dsimp only at ih ⊢
 refine Zj (fun hlt=>?_) (fun hge=>?_)
 ·obtain ⟨e,he,hd⟩:=Zp5 (show n<l.length by omega)
  rw [hd] at hc
  obtain ⟨c',h1,h2⟩:=Option.bind_eq_some_iff.1 hc
  have next:Tot (rec (w64 ((n:Int)+1),c'.links,c'.members)) (fun x=>x=r):=by
   rw [ZaO (by omega) (by omega)]
   exact ih _ ⟨n+1,c',rfl,by omega,h2⟩ (by omega)
  refine ZaM (Zb (Zp4 he) (ZaM ?_))
  unfold ZgX at h1
  by_cases h6:e.kind=6∧e.tag=2
  ·rw [if_pos h6] at h1
   injection h1 with h1
   subst h1
   rw [if_pos (decide_eq_true h6.1),decide_eq_true h6.2]
   exact ZZ (fun _=>next) fun h=>by cases h
  ·rw [if_neg h6] at h1
   obtain ⟨c1,h3,h1⟩:=Option.bind_eq_some_iff.1 h1
   obtain ⟨ks,h4,h1⟩:=Option.bind_eq_some_iff.1 h1
   obtain ⟨c2,h5,h1⟩:=Option.bind_eq_some_iff.1 h1
   obtain ⟨al,h7,h1⟩:=Option.bind_eq_some_iff.1 h1
   split at h1
   ·rename_i hal
    have go:Tot (letk (fun (x240:List Link)=>
      (Zbh e.kids).bind fun l241=>
      (Zt m (⟨x240,c.members⟩:Finder) l241).bind fun r242=>
      (ZlV e.args).bind fun l243=>
      Zbq Zel (fun f22 ((x254,x255,x256):Int×(List Link)×(List Memb))=>
       if (decide (x254<(l243.length:Int))) then
        (atI l243 x254).bind fun e272=>
        (Zbh e272.name).bind fun l273=>
        (Zt m (⟨x255,x256⟩:Finder) l273).bind fun r274=>
        (Zbh e272.value).bind fun l275=>
        (Zt m r274 l275).bind fun r276=>
        f22 ((w64 (x254+1)),r276.links,r276.members)
       else
       rec (w64 ((n:Int)+1),x255,x256)) (0,r242.links,r242.members)) fun k21=>
     if (decide (e.kind=4)) then
      (Zbh e.kids).bind fun l277=>
      (Zbs l277).bind fun r278=>
      if r278.2 then
       (Zjw 32 c.links [(⟨2,r278.1⟩:Link)]).bind fun l279=>
       k21 l279
      else
      k21 c.links
     else
     k21 c.links) (fun x=>x=r):=by
     refine Zap (fun q=>∀ x,(⟨x,c.members⟩:Finder)=c1→Tot (q x) (fun x=>x=r)) (fun x hx=>?_) fun q hq=>?_
     ·rw [hx]
      exact Zb h4 (Zb h5 (Zb h7 (Ztt (k:=fun x y=>rec (w64 ((n:Int)+1),x,y)) hal h1 next)))
     ·unfold Zih at h3
      refine Zj (fun hk=>?_) fun hk=>?_
      ·rw [if_pos hk] at h3
       obtain ⟨ks',h8,h3⟩:=Option.bind_eq_some_iff.1 h3
       obtain ⟨tr,h9,h3⟩:=Option.bind_eq_some_iff.1 h3
       refine Zb h8 (Zb h9 (ZZ (fun h10=>?_) fun h10=>?_))
       ·rw [if_pos h10] at h3
        obtain ⟨l3,h11,h3⟩:=Option.map_eq_some_iff.1 h3
        exact Zb h11 (hq _ h3)
       ·rw [if_neg (by rw [h10];decide)] at h3
        injection h3 with h3
        exact hq _ h3
      ·rw [if_neg hk] at h3
       injection h3 with h3
       exact hq _ h3
    by_cases hk6:e.kind=6
    ·have ht:¬ e.tag=2:=fun h=>h6 ⟨hk6,h⟩
     rw [if_pos (decide_eq_true hk6),decide_eq_false ht]
     exact ZZ (fun h=>by cases h) fun _=>go
    ·rw [if_neg (by rw [decide_eq_false hk6];decide)]
     exact ZZ (fun h=>by cases h) fun _=>go
   ·cases h1
 ·obtain rfl:n=l.length:=by omega
  rw [List.drop_length] at hc
  injection hc with hc
  subst hc
  exact Zd rfl
def nm1:List UInt8:=[110,111,105,110,99,108,117,100,101]
def nm2:List UInt8:=[105,110,99,108,117,100,101,111,110,108,121]
def nm3:List UInt8:=[111,110,108,121,105,110,99,108,117,100,101]
def Zga (pfx l:List UInt8):Int×Int:=
 if (pfx++nm1 ++ [62]).isPrefixOf l then (1,((pfx++nm1 ++ [62]).length:Int)) else
 if (pfx++nm2 ++ [62]).isPrefixOf l then (2,((pfx++nm2 ++ [62]).length:Int)) else
 if (pfx++nm3 ++ [62]).isPrefixOf l then (3,((pfx++nm3 ++ [62]).length:Int)) else (0,0)
theorem Zdf {α β:Type} {n m:Nat} {F:(α→Option β)→α→Option β} {a:α} {R:β→Prop} (e:m=n+1) (h:Tot (F (Zbq n F) a) R):Tot (Zbq m F a) R:=by
 subst e
 exact h
theorem Zhx (a b:List UInt8) (h:a.length+b.length≤9223372036854775807):Zbk (bs a) (bs b)=some (bs (a++b)):=by
 rw [ZmO (show (bs a).size+(bs b).size≤_ from h),ZuQ]
theorem ZfE (pfx l:List UInt8) (h:pfx.length≤10):Zcb (bs l) (bs pfx)=some (Zga pfx l):=by
 have n1:nm1.length=9:=rfl
 have n2:nm2.length=11:=rfl
 have n3:nm3.length=11:=rfl
 have z:([62]:List UInt8).length=1:=rfl
 have l1:(pfx++nm1).length=pfx.length+9:=by rw [List.length_append,n1]
 have l2:(pfx++nm2).length=pfx.length+11:=by rw [List.length_append,n2]
 have l3:(pfx++nm3).length=pfx.length+11:=by rw [List.length_append,n3]
 refine Za2 ?_
 unfold Zcb ZeZ
 refine Zb rfl ?_
 refine Zdf (n:=4611686018427387903) rfl (Zj (fun _=>?_) fun h=>absurd (by decide) h)
 refine Zb (v:=bs nm1) rfl ?_
 refine Zb (Zhx pfx nm1 (by omega)) ?_
 refine Zb (Zhx (pfx++nm1) [62] (by omega)) ?_
 refine Zb (Zdg l (pfx++nm1 ++ [62])) ?_
 unfold Zga
 refine ZZ (fun h1=>?_) fun h1=>?_
 ·rw [if_pos h1]
  exact Zd rfl
 rw [if_neg (by rw [h1];decide)]
 refine Zdf (n:=4611686018427387902) rfl (Zj (fun _=>?_) fun h=>absurd (by decide) h)
 refine Zb (v:=bs nm2) rfl ?_
 refine Zb (Zhx pfx nm2 (by omega)) ?_
 refine Zb (Zhx (pfx++nm2) [62] (by omega)) ?_
 refine Zb (Zdg l (pfx++nm2 ++ [62])) ?_
 refine ZZ (fun h2=>?_) fun h2=>?_
 ·rw [if_pos h2]
  exact Zd rfl
 rw [if_neg (by rw [h2];decide)]
 refine Zdf (n:=4611686018427387901) rfl (Zj (fun _=>?_) fun h=>absurd (by decide) h)
 refine Zb (v:=bs nm3) rfl ?_
 refine Zb (Zhx pfx nm3 (by omega)) ?_
 refine Zb (Zhx (pfx++nm3) [62] (by omega)) ?_
 refine Zb (Zdg l (pfx++nm3 ++ [62])) ?_
 refine ZZ (fun h3=>?_) fun h3=>?_
 ·rw [if_pos h3]
  exact Zd rfl
 rw [if_neg (by rw [h3];decide)]
 exact Zdf (n:=4611686018427387900) rfl (Zd rfl)
def Zkc (c:UInt8):List UInt8→Nat
 | []=>0
 | x::l=>if x=c then Zkc c l+1 else 0
theorem ZnJ {c x:UInt8} {l:List UInt8} (h:x=c):Zkc c (x::l)=Zkc c l+1:=by rw [Zkc,if_pos h]
theorem ZlZ {c x:UInt8} {l:List UInt8} (h:¬ x=c):Zkc c (x::l)=0:=by rw [Zkc,if_neg h]
theorem Zm1 (c:UInt8):∀ l:List UInt8,Zkc c l≤l.length
 | []=>Nat.le_refl _
 | x::l=>by
   have:=Zm1 c l
   unfold Zkc
   split
   ·simp;omega
   ·exact Nat.zero_le _
theorem Zl0 (c:UInt8):∀ (l:List UInt8) (i:Nat),i≤Zkc c l→i+Zkc c (l.drop i)=Zkc c l
 | l,0,_=>by simp
 | [],i+1,h=>by simp [Zkc] at h
 | x::l,i+1,h=>by
   by_cases hx:x=c
   ·rw [ZnJ hx] at h ⊢
    have:=Zl0 c l i (by omega)
    simp only [List.drop_succ_cons]
    omega
   ·rw [ZlZ hx] at h
    omega
theorem Zer (c:UInt8) (l:List UInt8) (h:l.length≤1000000):Zdb (bs l) (c.toNat:Int)=some (Zkc c l:Int):=by
 have z:(bs l).size=l.length:=rfl
 refine Za2 ?_
 unfold Zdb
 refine Zan (fun i=>0≤i∧i≤(Zkc c l:Int)) (fun i=>l.length - i.toNat) ⟨Int.le_refl _,by omega⟩ (by omega) fun i rec hJ ih=>?_
 obtain ⟨h0,h1⟩:=hJ
 obtain ⟨n,rfl⟩:∃ n:Nat,i=(n:Int):=⟨i.toNat,by omega⟩
 have hle:=Zm1 c l
 have hd:=Zl0 c l n (by omega)
 refine ZaM (Zj (fun hl=>?_) fun hl=>?_)
 ·have hn:n<l.length:=by omega
  have e:l[n]? = some l[n]:=List.getElem?_eq_getElem hn
  refine Zb (ZsP e) ?_
  rw [List.drop_eq_getElem_cons hn] at hd
  refine Zj (fun hc=>?_) fun hc=>?_
  ·have hx:l[n]=c:=UInt8.toNat_inj.1 (by omega)
   rw [ZnJ hx] at hd
   rw [ZaO (by omega) (by omega)]
   exact ih _ ⟨by omega,by omega⟩ (by omega)
  ·have hx:¬ l[n]=c:=fun hx=>hc (by rw [hx])
   rw [ZlZ hx] at hd
   exact Zd (by omega)
 ·exact Zd (by omega)
def cmt:List UInt8:=[60,33,45,45]
def cmtE:List UInt8:=[45,45,62]
def nwk:List UInt8:=[60,110,111,119,105,107,105,62]
def nwkE:List UInt8:=[60,47,110,111,119,105,107,105,62]
def Zmh (l:List UInt8):Int×Int:=
 if cmt.isPrefixOf l=true then (if 0≤Lib.index (l.drop 4) cmtE then (9,4+Lib.index (l.drop 4) cmtE+3) else (9,(l.length:Int)))
 else if nwk.isPrefixOf l=true∧0≤Lib.index (l.drop 8) nwkE then (10,8+Lib.index (l.drop 8) nwkE+9)
 else if 0<(Zga [60] l).2 then (11,(Zga [60] l).2) else if 0<(Zga [60,47] l).2 then (12,(Zga [60,47] l).2) else (0,0)
theorem ZnN (l p:List UInt8) (h:l.length≤1000000):strings_Index (bs l) (bs p)=some (Lib.index l p):=by
 unfold strings_Index
 rw [if_pos (show (bs l).size<4294967281 from by have:(bs l).size=l.length:=rfl;omega)]
 rfl
theorem Zjp {p l:List UInt8} (h:p.isPrefixOf l=true):p.length≤l.length:=(List.isPrefixOf_iff_prefix.1 h).length_le
theorem ZjO (l:List UInt8) (h:l.length≤1000000):ZdU (bs l)=some (Zmh l):=by
 have z:(bs l).size=l.length:=rfl
 refine Za2 ?_
 unfold ZdU Zmh
 refine Zb (Zdg l cmt) ?_
 refine ZZ (fun h1=>?_) fun h1=>?_
 ·rw [if_pos h1]
  have h4:4≤l.length:=Zjp h1
  refine Zb (Zjk l 4 h4) ?_
  refine Zb (ZnN (l.drop 4) cmtE (by simp;omega)) ?_
  have hx:=Lib.index_le (l.drop 4) cmtE
  simp only [List.length_drop] at hx
  refine Zj (fun h2=>?_) fun h2=>?_
  ·rw [if_pos h2]
   have e1:w64 (4+Lib.index (l.drop 4) cmtE)=4+Lib.index (l.drop 4) cmtE:=ZaO (by omega) (by omega)
   rw [e1,ZaO (by omega) (by omega)]
   exact Zd rfl
  ·rw [if_neg h2]
   exact Zd rfl
 rw [if_neg (by rw [h1];decide)]
 refine Zb (Zdg l nwk) ?_
 have tags:Tot ((Zcb (bs l) ⟨#[60]⟩).bind fun r9=>if decide (0<r9.2)=true then (some (11,r9.2):Option (Int×Int)) else (Zcb (bs l) ⟨#[60,47]⟩).bind fun r10=>if decide (0<r10.2)=true then some (12,r10.2) else some (0,0)) fun r=>r=if 0<(Zga [60] l).2 then (11,(Zga [60] l).2) else if 0<(Zga [60,47] l).2 then (12,(Zga [60,47] l).2) else (0,0):=by
  refine Zb (ZfE [60] l (by decide)) ?_
  refine Zj (fun h2=>?_) fun h2=>?_
  ·rw [if_pos h2]
   exact Zd rfl
  rw [if_neg h2]
  refine Zb (ZfE [60,47] l (by decide)) ?_
  refine Zj (fun h3=>?_) fun h3=>?_
  ·rw [if_pos h3]
   exact Zd rfl
  ·rw [if_neg h3]
   exact Zd rfl
 refine ZaM (ZZ (fun h2=>?_) fun h2=>?_)
 ·have h8:8≤l.length:=Zjp h2
  refine Zb (Zjk l 8 h8) ?_
  refine Zb (ZnN (l.drop 8) nwkE (by simp;omega)) ?_
  have hx:=Lib.index_le (l.drop 8) nwkE
  simp only [List.length_drop] at hx
  refine Zj (fun h3=>?_) fun h3=>?_
  ·rw [if_pos ⟨h2,h3⟩]
   have e1:w64 (8+Lib.index (l.drop 8) nwkE)=8+Lib.index (l.drop 8) nwkE:=ZaO (by omega) (by omega)
   rw [e1,ZaO (by omega) (by omega)]
   exact Zd rfl
  ·rw [if_neg (fun h=>h3 h.2)]
   exact tags
 ·rw [if_neg (fun h=>by rw [h2] at h;cases h.1)]
  exact tags
def Zmi (c:UInt8) (l:List UInt8):Int×Int:=if c=60 then Zmh l
  else if c=123 then (if 2≤Zkc 123 l then (3,(Zkc 123 l:Int)) else (0,0))
  else if c=125 then (if 2≤Zkc 125 l then (4,(Zkc 125 l:Int)) else (0,0))
  else if c=91 then (if 2≤Zkc 91 l then (5,2) else (0,0))
  else if c=93 then (if 2≤Zkc 93 l then (6,2) else (0,0))
  else if c=124 then (7,1) else if c=61 then (8,1) else if c=10 then (2,1) else (0,0)
def ZfN:List UInt8→Int×Int
 | []=>(0,0)
 | c::l=>Zmi c (c::l)
theorem u8c {c k:UInt8}:((c.toNat:Int)=(k.toNat:Int))↔c=k:=
 ⟨fun h=>UInt8.toNat_inj.1 (by omega),fun h=>by rw [h]⟩
theorem ZjP (c:UInt8) (l:List UInt8) (h:(c::l).length≤1000000):ZcQ (bs (c::l))=some (ZfN (c::l)):=by
 refine Za2 ?_
 rw [show ZfN (c::l)=Zmi c (c::l) from rfl]
 unfold ZcQ Zmi
 refine Zb (ZsP (L:=c::l) (n:=0) rfl) ?_
 refine ZaM ?_
 refine Zj (fun h1=>?_) fun h1=>?_
 ·rw [if_pos ((u8c (k:=60)).1 h1)]
  exact Zb (ZjO _ h) (Zd rfl)
 rw [if_neg fun e=>h1 ((u8c (k:=60)).2 e)]
 refine Zj (fun h2=>?_) fun h2=>?_
 ·rw [if_pos ((u8c (k:=123)).1 h2)]
  refine Zb (Zer 123 _ h) (Zj (fun h3=>?_) fun h3=>?_)
  ·rw [if_pos (by omega)];exact Zd rfl
  ·rw [if_neg (by omega)];exact Zd rfl
 rw [if_neg fun e=>h2 ((u8c (k:=123)).2 e)]
 refine Zj (fun h3=>?_) fun h3=>?_
 ·rw [if_pos ((u8c (k:=125)).1 h3)]
  refine Zb (Zer 125 _ h) (Zj (fun h3=>?_) fun h3=>?_)
  ·rw [if_pos (by omega)];exact Zd rfl
  ·rw [if_neg (by omega)];exact Zd rfl
 rw [if_neg fun e=>h3 ((u8c (k:=125)).2 e)]
 refine Zj (fun h4=>?_) fun h4=>?_
 ·rw [if_pos ((u8c (k:=91)).1 h4)]
  refine Zb (Zer 91 _ h) (Zj (fun h3=>?_) fun h3=>?_)
  ·rw [if_pos (by omega)];exact Zd rfl
  ·rw [if_neg (by omega)];exact Zd rfl
 rw [if_neg fun e=>h4 ((u8c (k:=91)).2 e)]
 refine Zj (fun h5=>?_) fun h5=>?_
 ·rw [if_pos ((u8c (k:=93)).1 h5)]
  refine Zb (Zer 93 _ h) (Zj (fun h3=>?_) fun h3=>?_)
  ·rw [if_pos (by omega)];exact Zd rfl
  ·rw [if_neg (by omega)];exact Zd rfl
 rw [if_neg fun e=>h5 ((u8c (k:=93)).2 e)]
 refine Zj (fun h6=>?_) fun h6=>?_
 ·rw [if_pos ((u8c (k:=124)).1 h6)]
  exact Zd rfl
 rw [if_neg fun e=>h6 ((u8c (k:=124)).2 e)]
 refine Zj (fun h7=>?_) fun h7=>?_
 ·rw [if_pos ((u8c (k:=61)).1 h7)]
  exact Zd rfl
 rw [if_neg fun e=>h7 ((u8c (k:=61)).2 e)]
 refine Zj (fun h8=>?_) fun h8=>?_
 ·rw [if_pos ((u8c (k:=10)).1 h8)]
  exact Zd rfl
 rw [if_neg fun e=>h8 ((u8c (k:=10)).2 e)]
 exact Zd rfl
def Ze6 (L:List UInt8):Nat→Nat→Nat→List Tok
 | 0,st,_=>if st<L.length then [⟨1,(st:Int),(L.length:Int)⟩] else []
 | f+1,st,i=>if i<L.length then (if (ZfN (L.drop i)).1=0 then Ze6 L f st (i+1) else
   (if st<i then [⟨1,(st:Int),(i:Int)⟩] else [])++⟨(ZfN (L.drop i)).1,(i:Int),(i:Int)+(ZfN (L.drop i)).2⟩::Ze6 L f (i+(ZfN (L.drop i)).2.toNat) (i+(ZfN (L.drop i)).2.toNat))
   else if st<L.length then [⟨1,(st:Int),(L.length:Int)⟩] else []
theorem Zqs {L:List UInt8} {st i:Nat} (h:¬ i<L.length):∀ f,Ze6 L f st i=if st<L.length then [⟨1,(st:Int),(L.length:Int)⟩] else []
 | 0=>rfl
 | f+1=>by
   unfold Ze6
   rw [if_neg h]
theorem Zk1 (pfx l:List UInt8):(Zga pfx l=(0,0))∨((1≤(Zga pfx l).1∧(Zga pfx l).1≤3)∧1≤(Zga pfx l).2∧(Zga pfx l).2≤(l.length:Int)):=by
 have z:([62]:List UInt8).length=1:=rfl
 unfold Zga
 split
 ·rename_i h
  have:=Zjp h
  simp only [List.length_append] at this ⊢
  exact .inr ⟨⟨by decide,by decide⟩,by omega,by omega⟩
 split
 ·rename_i h
  have:=Zjp h
  simp only [List.length_append] at this ⊢
  exact .inr ⟨⟨by decide,by decide⟩,by omega,by omega⟩
 split
 ·rename_i h
  have:=Zjp h
  simp only [List.length_append] at this ⊢
  exact .inr ⟨⟨by decide,by decide⟩,by omega,by omega⟩
 ·exact .inl rfl
def ZhA (l:List UInt8) (q:Int×Int):Prop:=q.1=0∨((2≤q.1∧q.1≤12)∧(1≤q.2∧q.2≤(l.length:Int))∧(q.1=10→17≤q.2)∧(q.1=11→0<(Zga [60] l).2∧q.2=(Zga [60] l).2))
theorem fo0 {l:List UInt8} (n:Int):ZhA l (0,n):=.inl rfl
theorem fo {l:List UInt8} {k n:Int} (h1:2≤k∧k≤12) (h2:1≤n∧n≤(l.length:Int)) (h3:k=10→17≤n) (h4:k=11→0<(Zga [60] l).2∧n=(Zga [60] l).2):ZhA l (k,n):=.inr ⟨h1,h2,h3,h4⟩
theorem Zqt (l:List UInt8) (h:l≠[]):ZhA l (Zmh l):=by
 have hl:1≤l.length:=List.length_pos_iff.2 h
 unfold Zmh
 split
 ·rename_i h1
  have h4:4≤l.length:=Zjp h1
  split
  ·rename_i h2
   have:=Lib.index_room _ _ h2
   have z:cmtE.length=3:=rfl
   simp only [List.length_drop] at this
   exact fo ⟨by decide,by decide⟩ ⟨by omega,by omega⟩ (fun h=>by cases h) fun h=>by cases h
  ·exact fo ⟨by decide,by decide⟩ ⟨by omega,by omega⟩ (fun h=>by cases h) fun h=>by cases h
 split
 ·rename_i h2
  have h8:8≤l.length:=Zjp h2.1
  have:=Lib.index_room _ _ h2.2
  have z:nwkE.length=9:=rfl
  simp only [List.length_drop] at this
  exact fo ⟨by decide,by decide⟩ ⟨by omega,by omega⟩ (fun _=>by omega) fun h=>by cases h
 split
 ·rename_i h3
  rcases Zk1 [60] l with h4 | h4
  ·rw [h4] at h3;cases h3
  ·exact fo ⟨by decide,by decide⟩ h4.2 (fun h=>by cases h) fun _=>⟨h3,rfl⟩
 split
 ·rename_i h3
  rcases Zk1 [60,47] l with h4 | h4
  ·rw [h4] at h3;cases h3
  ·exact fo ⟨by decide,by decide⟩ h4.2 (fun h=>by cases h) fun h=>by cases h
 ·exact fo0 _
theorem Zl5:∀ l:List UInt8,ZhA l (ZfN l)
 | []=>.inl rfl
 | c::l=>by
   have r (k:UInt8):=Zm1 k (c::l)
   show ZhA (c::l) (Zmi c (c::l))
   unfold Zmi
   split
   ·exact Zqt _ (by simp)
   have hl:1≤(c::l).length:=by simp
   have r123:=r 123
   have r125:=r 125
   have r91:=r 91
   have r93:=r 93
   repeat' split
   all_goals first
    | exact fo0 _
    | exact fo ⟨by decide,by decide⟩ ⟨by omega,by omega⟩ (fun h=>by cases h) fun h=>by cases h
theorem Zk2 (a b:List Tok) (h:a.length+b.length≤1000000):Zjw 24 a b=some (a++b):=ZmN 1000000 h (by decide) (by decide)
theorem Zk3 (L:List UInt8) (h:L.length≤8192):ZeB (bs L)=some (Ze6 L L.length 0 0,0):=by
 have z:(bs L).size=L.length:=rfl
 refine Za2 ?_
 unfold ZeB
 refine Zj (fun h2=>absurd h2 (by omega)) fun _=>?_
 refine Zan (fun a:Int×Int×List Tok=>∃ st i f:Nat,a.1=(st:Int)∧a.2.1=(i:Int)∧st≤i∧i≤L.length∧L.length≤i+f∧a.2.2.length≤2 * i∧a.2.2++Ze6 L f st i=Ze6 L L.length 0 0)
  (fun a=>L.length - a.2.1.toNat) ⟨0,0,L.length,rfl,rfl,by omega,by omega,by omega,by simp,rfl⟩ (by dsimp only;omega) ?_
 rintro ⟨x,y,acc⟩ rec ⟨st,i,f,hx,hy,h1,h3,h4,h5,h6⟩ ih
 dsimp only at hx hy h5 h6
 subst hx hy
 dsimp only at ih ⊢
 refine Zj (fun hi=>?_) fun hi=>?_
 ·have hi':i<L.length:=by omega
  obtain ⟨f,rfl⟩:∃ f',f=f'+1:=⟨f - 1,by omega⟩
  have hd:L.drop i=L[i]::L.drop (i+1):=List.drop_eq_getElem_cons hi'
  have hlen:(L.drop i).length=L.length - i:=List.length_drop
  refine Zb (Zjk L i (by omega)) ?_
  have hf:ZcQ (bs (L.drop i))=some (ZfN (L.drop i)):=by
   rw [hd]
   exact ZjP _ _ (by rw [← hd];omega)
  refine Zb hf ?_
  have hok:=Zl5 (L.drop i)
  rw [Ze6,if_pos hi'] at h6
  generalize hq:ZfN (L.drop i)=q at hok h6 ⊢
  refine Zj (fun h0=>?_) fun h0=>?_
  ·rw [if_pos h0] at h6
   rw [ZaO (by omega) (by omega)]
   exact ih (st,((i:Int)+1),acc) ⟨st,i+1,f,rfl,by simp,by omega,by omega,by omega,by dsimp only;omega,h6⟩ (by dsimp only;omega)
  ·rw [if_neg h0] at h6
   rcases hok with hok | hok
   ·exact absurd hok h0
   obtain ⟨_,⟨k1,k2⟩,_⟩:=hok
   have e1:w64 ((i:Int)+q.2)=(i:Int)+q.2:=ZaO (by omega) (by omega)
   have e2:(i:Int)+q.2=((i+q.2.toNat:Nat):Int):=by omega
   refine Zap (fun K=>∀ l':List Tok,l'.length≤2 * i+1→l'++⟨q.1,(i:Int),(i:Int)+q.2⟩::Ze6 L f (i+q.2.toNat) (i+q.2.toNat)=Ze6 L L.length 0 0→Tot (K l') fun r=>r=(Ze6 L L.length 0 0,0)) (fun l' hl he=>?_) fun K hK=>?_
   ·rw [e1]
    refine Zb (Zk2 l' [⟨q.1,(i:Int),(i:Int)+q.2⟩] (by simp;omega)) ?_
    refine ih ((i:Int)+q.2,(i:Int)+q.2,l' ++ [⟨q.1,(i:Int),(i:Int)+q.2⟩]) ⟨i+q.2.toNat,i+q.2.toNat,f,e2,e2,Nat.le_refl _,by omega,by omega,by simp;omega,?_⟩ (by dsimp only;omega)
    rw [List.append_assoc]
    exact he
   ·refine Zj (fun h7=>?_) fun h7=>?_
    ·rw [if_pos (by omega)] at h6
     refine Zb (Zk2 acc [⟨1,(st:Int),(i:Int)⟩] (by simp;omega)) ?_
     refine hK _ (by simp;omega) ?_
     rw [List.append_assoc]
     exact h6
    ·rw [if_neg (by omega)] at h6
     exact hK acc (by omega) h6
 ·rw [Zqs (by omega)] at h6
  refine ZaM (Zj (fun h7=>?_) fun h7=>?_)
  ·rw [if_pos (by omega)] at h6
   refine Zb (Zk2 acc [⟨1,(st:Int),((bs L).size:Int)⟩] (by simp;omega)) ?_
   refine Zd ?_
   rw [← h6]
   rfl
  ·rw [if_neg (by omega)] at h6
   refine Zd ?_
   rw [← h6,List.append_nil]
inductive LW:Bool→Nat→List (List PV)→Prop
 | nil (b:Bool) (w:Nat):LW b w []
 | node (n:Node) (l:List (List PV)) (w wk wa wl:Nat) (h:n.text.size+1+wk+wa+wl≤w) (hk:LW false wk n.kids) (ha:LW true wa n.args) (hl:LW false wl l):LW false w (n.cs::l)
 | arg (a:Arg) (l:List (List PV)) (w wn wv wl:Nat) (h:4+wn+wv+wl≤w) (hn:LW false wn a.name) (hv:LW false wv a.value) (hl:LW true wl l):LW true w (a.cs::l)
theorem LW.mono {b:Bool} {w w':Nat} {l:List (List PV)} (h:LW b w l) (hw:w≤w'):LW b w' l:=by
 cases h with
 | nil=>exact .nil _ _
 | node n l w wk wa wl h hk ha hl=>exact .node n l w' wk wa wl (by omega) hk ha hl
 | arg a l w wn wv wl h hn hv hl=>exact .arg a l w' wn wv wl (by omega) hn hv hl
theorem Znh {a b:Node} (h:a.cs=b.cs):a=b:=by
 obtain ⟨a1,a2,a3,a4,a5⟩:=a
 obtain ⟨b1,b2,b3,b4,b5⟩:=b
 simp [Node.cs] at h
 simp [h]
theorem Zph {a b:Arg} (h:a.cs=b.cs):a=b:=by
 obtain ⟨a1,a2,a3⟩:=a
 obtain ⟨b1,b2,b3⟩:=b
 simp [Arg.cs] at h
 simp [h]
theorem LW.node_inv {w:Nat} {x:List PV} {l:List (List PV)} (h:LW false w (x::l)):∃ (n:Node) (wk wa wl:Nat),x=n.cs∧n.text.size+1+wk+wa+wl≤w∧LW false wk n.kids∧LW true wa n.args∧LW false wl l:=by
 cases h with
 | node n l w wk wa wl h hk ha hl=>exact ⟨n,wk,wa,wl,rfl,h,hk,ha,hl⟩
theorem LW.arg_inv {w:Nat} {x:List PV} {l:List (List PV)} (h:LW true w (x::l)):∃ (a:Arg) (wn wv wl:Nat),x=a.cs∧4+wn+wv+wl≤w∧LW false wn a.name∧LW false wv a.value∧LW true wl l:=by
 cases h with
 | arg a l w wn wv wl h hn hv hl=>exact ⟨a,wn,wv,wl,rfl,h,hn,hv,hl⟩
theorem LW.app {b:Bool}:∀ {l1 l2:List (List PV)} {w1 w2:Nat},LW b w1 l1→LW b w2 l2→LW b (w1+w2) (l1++l2)
 | [],l2,w1,w2,_,h=>h.mono (by omega)
 | x::l1,l2,w1,w2,h1,h2=>by
   cases b with
   | false=>
     obtain ⟨n,wk,wa,wl,rfl,h,hk,ha,hl⟩:=h1.node_inv
     exact .node n _ _ wk wa (wl+w2) (by omega) hk ha (LW.app hl h2)
   | true=>
     obtain ⟨a,wn,wv,wl,rfl,h,hn,hv,hl⟩:=h1.arg_inv
     exact .arg a _ _ wn wv (wl+w2) (by omega) hn hv (LW.app hl h2)
theorem LW.len {b:Bool}:∀ {l:List (List PV)} {w:Nat},LW b w l→l.length≤w
 | [],w,_=>Nat.zero_le _
 | x::l,w,h=>by
   cases b with
   | false=>
     obtain ⟨n,wk,wa,wl,rfl,h,hk,ha,hl⟩:=h.node_inv
     have:=LW.len hl
     simp
     omega
   | true=>
     obtain ⟨a,wn,wv,wl,rfl,h,hn,hv,hl⟩:=h.arg_inv
     have:=LW.len hl
     simp
     omega
theorem LW.split {b:Bool}:∀ {l1 l2:List (List PV)} {w:Nat},LW b w (l1++l2)→∃ w1 w2,w1+w2≤w∧LW b w1 l1∧LW b w2 l2
 | [],l2,w,h=>⟨0,w,by omega,.nil _ _,h⟩
 | x::l1,l2,w,h=>by
   rw [List.cons_append] at h
   cases b with
   | false=>
     obtain ⟨n,wk,wa,wl,rfl,h,hk,ha,hl⟩:=h.node_inv
     obtain ⟨w1,w2,h0,h1,h2⟩:=LW.split hl
     exact ⟨n.text.size+1+wk+wa+w1,w2,by omega,.node n _ _ wk wa w1 (Nat.le_refl _) hk ha h1,h2⟩
   | true=>
     obtain ⟨a,wn,wv,wl,rfl,h,hn,hv,hl⟩:=h.arg_inv
     obtain ⟨w1,w2,h0,h1,h2⟩:=LW.split hl
     exact ⟨4+wn+wv+w1,w2,by omega,.arg a _ _ wn wv w1 (Nat.le_refl _) hn hv h1,h2⟩
theorem LW.node1 {w:Nat} {n:Node} (h:LW false w [n.cs]):∃ wk wa,n.text.size+1+wk+wa≤w∧LW false wk n.kids∧LW true wa n.args:=by
 obtain ⟨m,wk,wa,wl,e,h,hk,ha,hl⟩:=h.node_inv
 obtain rfl:=Znh e
 exact ⟨wk,wa,by omega,hk,ha⟩
theorem LW.arg1 {w:Nat} {a:Arg} (h:LW true w [a.cs]):∃ wn wv,4+wn+wv≤w∧LW false wn a.name∧LW false wv a.value:=by
 obtain ⟨m,wk,wa,wl,e,h,hk,ha,hl⟩:=h.arg_inv
 obtain rfl:=Zph e
 exact ⟨wk,wa,by omega,hk,ha⟩
theorem LW.mk1 {w:Nat} (k t:Int) (s:ByteArray) {kids args:List (List PV)} {wk wa:Nat} (hk:LW false wk kids) (ha:LW true wa args) (h:s.size+1+wk+wa≤w):LW false w [Node.cs ⟨k,t,s,kids,args⟩]:=
 .node ⟨k,t,s,kids,args⟩ [] w wk wa 0 (by dsimp only;omega) hk ha (.nil _ _)
theorem LW.mkA {w:Nat} (b:Bool) {n v:List (List PV)} {wn wv:Nat} (hn:LW false wn n) (hv:LW false wv v) (h:4+wn+wv≤w):LW true w [Arg.cs ⟨b,n,v⟩]:=
 (.arg ⟨b,n,v⟩ [] w wn wv 0 (by omega) hn hv (.nil _ _))
def EW (w:Nat) (e:El):Prop:=((e.kind=2→1≤e.tag∧e.tag≤3)∧0≤e.count)∧∃ wl wa,wl+wa+20+e.count.toNat≤w∧LW false wl e.list∧LW true wa (e.argL.map Arg.cs)
theorem EW.mono {w w':Nat} {e:El} (h:EW w e) (hw:w≤w'):EW w' e:=by
 obtain ⟨h0,wl,wa,h1,h2,h3⟩:=h
 exact ⟨h0,wl,wa,by omega,h2,h3⟩
theorem EW.focus {w:Nat} {e:El} (h:EW w e):∃ wc wo,wc+wo≤w∧LW false wc e.cur∧∀ (l':List (List PV)) (wc':Nat),LW false wc' l'→EW (wc'+wo) (e.setCur l'):=by
 obtain ⟨kind,tag,count,list,args⟩:=e
 obtain ⟨h0,wl,wa,h1,h2,h3⟩:=h
 dsimp only at h0 h1 h2
 cases args with
 | none=>exact ⟨wl,wa+20+count.toNat,by omega,h2,fun l' wc' hl=>⟨h0,wc',wa,by dsimp only [El.setCur];omega,hl,h3⟩⟩
 | some q=>
   obtain ⟨pre,a⟩:=q
   by_cases hk:kind=3
   ·have h4:LW true wa ((pre ++ [a]).map Arg.cs):=h3
    rw [List.map_append] at h4
    obtain ⟨w1,w2,h5,h6,h7⟩:=h4.split
    obtain ⟨wn,wv,h8,h9,h10⟩:=LW.arg1 h7
    refine ⟨wv,wl+w1+4+wn+20+count.toNat,by omega,?_,fun l' wc' hl=>?_⟩
    ·show LW false wv (if kind=3 then a.value else list)
     rw [if_pos hk]
     exact h10
    ·have e:El.setCur ⟨kind,tag,count,list,some (pre,a)⟩ l'=⟨kind,tag,count,list,some (pre,⟨a.named,a.name,l'⟩)⟩:=by
      unfold El.setCur
      dsimp only
      rw [if_pos hk]
     rw [e]
     refine ⟨h0,wl,w1+(4+wn+wc'),by dsimp only;omega,h2,?_⟩
     show LW true _ ((pre ++ [(⟨a.named,a.name,l'⟩:Arg)]).map Arg.cs)
     rw [List.map_append]
     exact LW.app h6 (LW.mkA _ h9 hl (Nat.le_refl _))
   ·refine ⟨wl,wa+20+count.toNat,by omega,?_,fun l' wc' hl=>?_⟩
    ·show LW false wl (if kind=3 then a.value else list)
     rw [if_neg hk]
     exact h2
    ·have e:El.setCur ⟨kind,tag,count,list,some (pre,a)⟩ l'=⟨kind,tag,count,l',some (pre,a)⟩:=by
      unfold El.setCur
      dsimp only
      rw [if_neg hk]
     rw [e]
     exact ⟨h0,wc',wa,by dsimp only;omega,hl,h3⟩
theorem Zpi {w wn:Nat} {l:List (List PV)} {n:Node} (h:LW false w l) (hn:LW false wn [n.cs]) (hb:w+wn≤1000000):∃ l',Zi8 l n=some l'∧LW false (w+wn) l':=by
 have h1:=h.len
 have h2:=hn.len
 refine ⟨l ++ [n.cs],ZmN 1000000 (by simp at h2 ⊢;omega) (by omega) (by omega),LW.app h hn⟩
theorem Zs2 {w:Nat} {l:List (List PV)} {s:ByteArray} (h:LW false w l) (hb:w+s.size+1≤1000000):∃ l',ZlR l s=some l'∧LW false (w+(s.size+1)) l':=by
 have hn:∃ l',Zi8 l ⟨1,0,s,[],[]⟩=some l'∧LW false (w+(s.size+1)) l':=Zpi h (LW.mk1 1 0 s (LW.nil _ 0) (LW.nil _ 0) (by omega)) (by omega)
 unfold ZlR
 split
 ·exact hn
 ·rename_i x hx
  obtain ⟨init,rfl⟩:=List.getLast?_eq_some_iff.1 hx
  obtain ⟨w1,w2,h1,h2,h3⟩:=h.split
  obtain ⟨n,wk,wa,wl,rfl,h4,hk,ha,_⟩:=h3.node_inv
  rw [show Ztx n.cs=some n from rfl]
  show ∃ l',(if n.kind=1 then (Zbk n.text s).map fun y=>(init ++ [n.cs]).dropLast ++ [Node.cs ⟨1,n.tag,y,n.kids,n.args⟩] else Zi8 (init ++ [n.cs]) ⟨1,0,s,[],[]⟩)=some l'∧_
  by_cases hk1:n.kind=1
  ·rw [if_pos hk1,ZmO (by omega)]
   refine ⟨_,rfl,?_⟩
   rw [List.dropLast_concat]
   refine LW.mono (LW.app h2 (LW.mk1 1 n.tag (n.text++s) hk ha (Nat.le_refl _))) ?_
   rw [ByteArray.size_append]
   omega
  ·rw [if_neg hk1]
   exact hn
def alike (e e':El):Prop:=e'.kind=e.kind∧e'.tag=e.tag∧e'.count=e.count∧(e'.args=none↔e.args=none)
theorem alike.refl (e:El):alike e e:=⟨rfl,rfl,rfl,Iff.rfl⟩
theorem alike.trans {a b c:El} (h:alike a b) (k:alike b c):alike a c:=⟨k.1.trans h.1,k.2.1.trans h.2.1,k.2.2.1.trans h.2.2.1,k.2.2.2.trans h.2.2.2⟩
theorem Zln (e:El) (l:List (List PV)):alike e (e.setCur l):=by
 obtain ⟨kind,tag,count,list,args⟩:=e
 cases args with
 | none=>exact ⟨rfl,rfl,rfl,Iff.rfl⟩
 | some q=>
   obtain ⟨pre,a⟩:=q
   unfold El.setCur
   dsimp only
   split
   ·exact ⟨rfl,rfl,rfl,by simp⟩
   ·exact ⟨rfl,rfl,rfl,Iff.rfl⟩
theorem Zpj {w wn:Nat} {e:El} {n:Node} (h:EW w e) (hn:LW false wn [n.cs]) (hb:w+wn≤1000000):∃ e',Zf9 e n=some e'∧EW (w+wn) e'∧alike e e':=by
 obtain ⟨wc,wo,h1,h2,h3⟩:=h.focus
 obtain ⟨l',h4,h5⟩:=Zpi h2 hn (by omega)
 exact ⟨e.setCur l',by unfold Zf9;rw [h4];rfl,(h3 l' _ h5).mono (by omega),Zln e l'⟩
theorem Zgk {w:Nat} {e:El} {s:ByteArray} (h:EW w e) (hb:w+s.size+1≤1000000):∃ e',Zby e s=some e'∧EW (w+(s.size+1)) e'∧alike e e':=by
 unfold Zby
 split
 ·exact ⟨e,rfl,h.mono (by omega),alike.refl e⟩
 ·obtain ⟨wc,wo,h1,h2,h3⟩:=h.focus
  obtain ⟨l',h4,h5⟩:=Zs2 (s:=s) h2 (by omega)
  exact ⟨e.setCur l',by rw [h4];rfl,(h3 l' _ h5).mono (by omega),Zln e l'⟩
theorem Zni:∀ {l:List (List PV)} {w wl:Nat} {e:El},EW w e→LW false wl l→w+wl≤1000000→∃ e',Zh0 e l=some e'∧EW (w+wl) e'∧alike e e'
 | [],w,wl,e,h,_,_=>⟨e,rfl,h.mono (by omega),alike.refl e⟩
 | x::l,w,wl,e,h,hl,hb=>by
   obtain ⟨n,wk,wa,wr,rfl,h1,hk,ha,hr⟩:=hl.node_inv
   have step:∃ e',(if n.kind=1 then Zby e n.text else Zf9 e n)=some e'∧EW (w+(n.text.size+1+wk+wa)) e'∧alike e e':=by
    by_cases hk1:n.kind=1
    ·rw [if_pos hk1]
     obtain ⟨e',h2,h3,h4⟩:=Zgk (s:=n.text) h (by omega)
     exact ⟨e',h2,h3.mono (by omega),h4⟩
    ·rw [if_neg hk1]
     exact Zpj h (LW.mk1 n.kind n.tag n.text hk ha (Nat.le_refl _)) (by omega)
   obtain ⟨e',h2,h3,h4⟩:=step
   obtain ⟨e2,h5,h6,h7⟩:=Zni h3 hr (by omega)
   refine ⟨e2,?_,h6.mono (by omega),h4.trans h7⟩
   show ((Ztx n.cs).bind fun n=>(if n.kind=1 then Zby e n.text else Zf9 e n).bind fun e'=>Zh0 e' l)=_
   rw [show Ztx n.cs=some n from rfl]
   show ((if n.kind=1 then Zby e n.text else Zf9 e n).bind fun e'=>Zh0 e' l)=_
   rw [h2]
   exact h5
theorem Zia {l:List (List PV)} {w wl:Nat} {e:El} (h:EW w e) (hl:LW false wl l) (hb:w+wl≤1000000):∃ e',Zdr e l=some e'∧EW (w+wl) e'∧alike e e':=by
 have:=hl.len
 unfold Zdr
 rw [if_pos (by omega)]
 exact Zni h hl hb
theorem Zpk {a:Arg} {w wn wv:Nat} {e:El} (h:EW w e) (hn:LW false wn a.name) (hv:LW false wv a.value) (hb:w+(4+wn+wv)≤1000000):∃ e',ZiE e a=some e'∧EW (w+(4+wn+wv)) e'∧alike e e':=by
 have z1:(⟨#[124]⟩:ByteArray).size=1:=rfl
 have z2:(⟨#[61]⟩:ByteArray).size=1:=rfl
 obtain ⟨b,h1,h2,h3⟩:=Zgk (s:=⟨#[124]⟩) h (by omega)
 have mid:∃ d,((if a.named=true then (Zdr b a.name).bind fun c=>Zby c ⟨#[61]⟩ else some b):Option El)=some d∧EW (w+(4+wn)) d∧alike b d:=by
  by_cases hm:a.named=true
  ·rw [if_pos hm]
   obtain ⟨c,h4,h5,h6⟩:=Zia h2 hn (by omega)
   obtain ⟨d,h7,h8,h9⟩:=Zgk (s:=⟨#[61]⟩) h5 (by omega)
   exact ⟨d,by rw [h4];exact h7,h8.mono (by omega),h6.trans h9⟩
  ·rw [if_neg hm]
   exact ⟨b,rfl,h2.mono (by omega),alike.refl b⟩
 obtain ⟨d,h4,h5,h6⟩:=mid
 obtain ⟨e',h7,h8,h9⟩:=Zia h5 hv (by omega)
 refine ⟨e',?_,h8.mono (by omega),h3.trans (h6.trans h9)⟩
 unfold ZiE
 rw [h1]
 show (((if a.named=true then (Zdr b a.name).bind fun c=>Zby c ⟨#[61]⟩ else some b):Option El).bind fun d=>Zdr d a.value)=_
 rw [h4]
 exact h7
theorem ZjW:∀ {l:List Arg} {w wl:Nat} {e:El},EW w e→LW true wl (l.map Arg.cs)→w+wl≤1000000→∃ e',Zem e l=some e'∧EW (w+wl) e'∧alike e e'
 | [],w,wl,e,h,_,_=>⟨e,rfl,h.mono (by omega),alike.refl e⟩
 | a::l,w,wl,e,h,hl,hb=>by
   rw [List.map_cons] at hl
   obtain ⟨a',wn,wv,wr,ea,h1,hn,hv,hr⟩:=hl.arg_inv
   obtain rfl:=Zph ea
   obtain ⟨e1,h2,h3,h4⟩:=Zpk h hn hv (by omega)
   obtain ⟨e2,h5,h6,h7⟩:=ZjW h3 hr (by omega)
   refine ⟨e2,?_,h6.mono (by omega),h4.trans h7⟩
   show ((ZiE e a).bind fun e'=>Zem e' l)=_
   rw [h2]
   exact h5
theorem ZuL {b:UInt8} {c:Int} (h0:0≤c) (h1:c≤1000000):∃ s,strings_Repeat ⟨#[b]⟩ c=some s∧s.size=c.toNat∧(c=0→s=⟨#[]⟩):=by
 have z:(⟨#[b]⟩:ByteArray).size=1:=rfl
 refine ⟨⟨(Lib.repeatL [b] c.toNat).toArray⟩,?_,?_,fun h=>?_⟩
 ·unfold strings_Repeat
  rw [if_pos ⟨h0,by omega,by rw [z,Nat.one_mul];omega⟩]
 ·show (Lib.repeatL [b] c.toNat).length=_
  rw [Lib.repeatL_length]
  simp
 ·subst h
  rfl
theorem Zqu {t:Int} (h1:1≤t) (h3:t≤3):∃ s,Zdv t=some s∧s.size≤13:=by
 have:t=1∨t=2∨t=3:=by omega
 rcases this with rfl | rfl | rfl
 ·exact ⟨⟨#[60,110,111,105,110,99,108,117,100,101,62]⟩,by kernel_rfl,by decide⟩
 ·exact ⟨⟨#[60,105,110,99,108,117,100,101,111,110,108,121,62]⟩,by kernel_rfl,by decide⟩
 ·exact ⟨⟨#[60,111,110,108,121,105,110,99,108,117,100,101,62]⟩,by kernel_rfl,by decide⟩
theorem ZoC {w c:Nat} {e e2:El} (ht:e.kind=2→1≤e.tag∧e.tag≤3) (h0:0≤e.count) (hc:e.count.toNat=c) (h:EW w e2) (hb:w+20+c≤1000000):∃ a,ZfR e e2=some a∧EW (w+20+c) a∧alike e2 a:=by
 have z1:(⟨#[91,91]⟩:ByteArray).size=2:=rfl
 unfold ZfR
 by_cases k1:e.kind=1
 ·rw [if_pos k1]
  obtain ⟨a,h1,h2,h3⟩:=Zgk (s:=⟨#[91,91]⟩) h (by omega)
  exact ⟨a,h1,h2.mono (by omega),h3⟩
 rw [if_neg k1]
 by_cases k2:e.kind=2
 ·rw [if_pos k2]
  obtain ⟨s,hs,hz⟩:=Zqu (ht k2).1 (ht k2).2
  obtain ⟨a,h1,h2,h3⟩:=Zgk (s:=s) h (by omega)
  exact ⟨a,by rw [hs];exact h1,h2.mono (by omega),h3⟩
 rw [if_neg k2]
 by_cases k3:e.kind=3
 ·rw [if_pos k3]
  obtain ⟨s,hs,hz,_⟩:=ZuL (b:=123) h0 (by omega)
  obtain ⟨a,h1,h2,h3⟩:=Zgk (s:=s) h (by omega)
  exact ⟨a,by rw [hs];exact h1,h2.mono (by omega),h3⟩
 rw [if_neg k3]
 exact ⟨e2,rfl,h.mono (by omega),alike.refl _⟩
theorem ZoD {w w2:Nat} {e e2:El} (h:EW w e) (h2:EW w2 e2) (hb:w+w2≤1000000):∃ e3,ZfS e e2=some e3∧EW (w+w2) e3∧alike e2 e3:=by
 obtain ⟨⟨ht,h0⟩,wl,wa,h3,h4,h5⟩:=h
 obtain ⟨a,a1,a2,a3⟩:=ZoC ht h0 rfl h2 (by omega)
 obtain ⟨b,b1,b2,b3⟩:=Zia a2 h4 (by omega)
 obtain ⟨c,c1,c2,c3⟩:=ZjW b2 h5 (by omega)
 have hl:=h5.len
 rw [List.length_map] at hl
 refine ⟨c,?_,c2.mono (by omega),a3.trans (b3.trans c3)⟩
 unfold ZfS
 rw [a1]
 show ((Zdr a e.list).bind fun b=>if e.argL.length≤4611686018427387904 then Zem b e.argL else none)=_
 rw [b1]
 show (if e.argL.length≤4611686018427387904 then Zem b e.argL else none)=_
 rw [if_pos (by omega)]
 exact c1
def SW:Nat→El→List El→Prop
 | w,e,[]=>EW w e
 | w,e,e2::r=>∃ w1 w2,w1+w2≤w∧EW w1 e∧SW w2 e2 r
theorem SW.mono:∀ {r:List El} {w w':Nat} {e:El},SW w e r→w≤w'→SW w' e r
 | [],w,w',e,h,hw=>EW.mono h hw
 | e2::r,w,w',e,⟨w1,w2,h0,h1,h2⟩,hw=>⟨w1,w2,by omega,h1,h2⟩
theorem SW.top {w:Nat} {e:El}:∀ {r:List El},SW w e r→∃ w1 w2,w1+w2≤w∧EW w1 e∧∀ e' w',EW w' e'→SW (w'+w2) e' r
 | [],h=>⟨w,0,by omega,h,fun e' w' h'=>EW.mono h' (by omega)⟩
 | e2::r,⟨w1,w2,h0,h1,h2⟩=>⟨w1,w2,h0,h1,fun e' w' h'=>⟨w',w2,Nat.le_refl _,h',h2⟩⟩
theorem SW.push {w w1:Nat} {e x:El} {r:List El} (h:SW w e r) (hx:EW w1 x):SW (w1+w) x (e::r):=⟨w1,w,Nat.le_refl _,hx,h⟩
def bot:El→List El→Prop
 | e,[]=>e.kind=0
 | _,e2::r=>bot e2 r
theorem Ze7 {e e':El} (hk:e'.kind=e.kind):∀ {r:List El},bot e r→bot e' r
 | [],h=>hk.trans h
 | _::_,h=>h
theorem Zip:∀ (n:Nat) {e:El} {r:List El} {w:Nat},SW w e r→n≤r.length→w≤1000000→∃ q,Zfi n e r=some q∧SW w q.1 q.2∧q.2=r.drop n∧∃ x,(e::r)[n]? = some x∧alike x q.1
 | 0,e,r,w,h,_,_=>⟨(e,r),rfl,h,rfl,e,rfl,alike.refl e⟩
 | n+1,e,[],w,h,hn,_=>by simp at hn
 | n+1,e,e2::r,w,⟨w1,w2,h0,h1,h2⟩,hn,hb=>by
   obtain ⟨u1,u2,h3,h4,h5⟩:=h2.top
   obtain ⟨e3,h6,h7,h8⟩:=ZoD h1 h4 (by omega)
   obtain ⟨q,q1,q2,q3,x,q4,q5⟩:=Zip n (h5 e3 _ h7) (by simpa using hn) (by omega)
   refine ⟨q,?_,q2.mono (by omega),q3,?_⟩
   ·show ((ZfS e e2).bind fun e3=>Zfi n e3 r)=_
    rw [h6]
    exact q1
   ·cases n with
    | zero=>
      injection q4 with q4
      subst q4
      exact ⟨e2,rfl,h8.trans q5⟩
    | succ n=>exact ⟨x,q4,q5⟩
theorem Zk4:∀ (n:Nat) {e x:El} {r:List El},bot e r→(e::r)[n]? = some x→n≤r.length→bot x (r.drop n)
 | 0,e,x,r,h,hx,_=>by injection hx with hx;subst hx;exact h
 | n+1,e,x,[],h,hx,hn=>by simp at hn
 | n+1,e,x,e2::r,h,hx,hn=>Zk4 n (e:=e2) h (by simpa using hx) (by simpa using hn)
theorem Zez {w:Nat} {e:El} {r:List El} {s:ByteArray} (h:SW w e r) (hk:bot e r) (hb:w+s.size+1≤1000000):∃ e',Zby e s=some e'∧SW (w+s.size+1) e' r∧bot e' r∧alike e e':=by
 obtain ⟨w1,w2,h1,h2,h3⟩:=h.top
 obtain ⟨e',h4,h5,h6⟩:=Zgk (s:=s) h2 (by omega)
 exact ⟨e',h4,(h3 e' _ h5).mono (by omega),Ze7 h6.1 hk,h6⟩
theorem Zk5 {w wn:Nat} {e:El} {r:List El} {n:Node} (h:SW w e r) (hk:bot e r) (hn:LW false wn [n.cs]) (hb:w+wn≤1000000):∃ e',Zf9 e n=some e'∧SW (w+wn) e' r∧bot e' r∧alike e e':=by
 obtain ⟨w1,w2,h1,h2,h3⟩:=h.top
 obtain ⟨e',h4,h5,h6⟩:=Zpj h2 hn (by omega)
 exact ⟨e',h4,(h3 e' _ h5).mono (by omega),Ze7 h6.1 hk,h6⟩
theorem EW.new {k t c:Int} (ht:k=2→1≤t∧t≤3) (hc:0≤c):EW (20+c.toNat) ⟨k,t,c,[],none⟩:=⟨⟨ht,hc⟩,0,0,by dsimp only;omega,.nil _ _,.nil _ _⟩
theorem Zm3 {w:Nat} {e:El} {r:List El} {k t c:Int} {x:ByteArray} (h:SW w e r) (hk:bot e r) (hr:r.length≤20) (ht:k=2→1≤t∧t≤3) (h0:0≤c) (hc:c.toNat≤x.size) (hb:w+x.size+20≤1000000) :
  ∃ q,ZkI k t c x e r=some q∧SW (w+x.size+20) q.1 q.2∧bot q.1 q.2∧q.2.length≤20:=by
 unfold ZkI
 by_cases hl:20≤r.length
 ·rw [if_pos hl]
  obtain ⟨e',h1,h2,h3,_⟩:=Zez (s:=x) h hk (by omega)
  exact ⟨(e',r),by rw [h1];rfl,h2.mono (by omega),h3,hr⟩
 ·rw [if_neg hl]
  exact ⟨_,rfl,(h.push (EW.new ht h0)).mono (by omega),hk,by simp;omega⟩
theorem ZuM {w:Nat} {e:El} {r:List El} (h:SW w e r) (hk:bot e r) (hb:w+4≤1000000):∃ e',Zs7 e=some e'∧SW (w+4) e' r∧bot e' r∧e'.kind=e.kind∧e'.tag=e.tag∧e'.count=e.count:=by
 obtain ⟨w1,w2,h1,h2,h3⟩:=h.top
 obtain ⟨kind,tag,count,list,args⟩:=e
 unfold Zs7
 by_cases k3:kind=3
 ·rw [if_pos (show (El.mk kind tag count list args).kind=3 from k3)]
  obtain ⟨h0,wl,wa,h4,h5,h6⟩:=h2
  dsimp only at h0 h4 h5
  cases args with
  | none=>
    refine ⟨_,rfl,(h3 _ (w1+4) ⟨h0,wl,4,by dsimp only;omega,h5,?_⟩).mono (by omega),(by refine Ze7 ?_ hk;rfl),rfl,rfl,rfl⟩
    exact LW.mkA false (LW.nil _ 0) (LW.nil _ 0) (by omega)
  | some q=>
    obtain ⟨pre,a⟩:=q
    have h7:LW true wa ((pre ++ [a]).map Arg.cs):=h6
    have h8:=h7.len
    simp only [List.length_map,List.length_append,List.length_cons,List.length_nil] at h8
    refine ⟨⟨kind,tag,count,list,some (pre ++ [a],⟨false,[],[]⟩)⟩,?_,(h3 _ (w1+4) ⟨h0,wl,wa+4,by dsimp only;omega,h5,?_⟩).mono (by omega),(by refine Ze7 ?_ hk;rfl),rfl,rfl,rfl⟩
    ·show (if pre.length+1≤1000000 then _ else none)=_
     rw [if_pos (by omega)]
    ·show LW true _ (((pre ++ [a]) ++ [(⟨false,[],[]⟩:Arg)]).map Arg.cs)
     rw [List.map_append]
     exact LW.app h7 (LW.mkA false (LW.nil _ 0) (LW.nil _ 0) (by omega))
 ·rw [if_neg (show ¬ (El.mk kind tag count list args).kind=3 from k3)]
  have z1:(⟨#[124]⟩:ByteArray).size=1:=rfl
  obtain ⟨e',h4,h5,h6,h7⟩:=Zez (s:=⟨#[124]⟩) h hk (by omega)
  exact ⟨e',h4,h5.mono (by omega),h6,h7.1,h7.2.1,h7.2.2.1⟩
theorem Zse {w:Nat} {e:El} {r:List El} (h:SW w e r) (hk:bot e r) (hb:w+4≤1000000):∃ e',Zix e=some e'∧SW (w+4) e' r∧bot e' r∧alike e e':=by
 have z1:(⟨#[61]⟩:ByteArray).size=1:=rfl
 have tx:∃ e',Zby e ⟨#[61]⟩=some e'∧SW (w+4) e' r∧bot e' r∧alike e e':=by
  obtain ⟨e',h4,h5,h6,h7⟩:=Zez (s:=⟨#[61]⟩) h hk (by omega)
  exact ⟨e',h4,h5.mono (by omega),h6,h7⟩
 obtain ⟨w1,w2,h1,h2,h3⟩:=h.top
 obtain ⟨kind,tag,count,list,args⟩:=e
 unfold Zix
 cases args with
 | none=>exact tx
 | some q=>
   obtain ⟨pre,a⟩:=q
   dsimp only
   by_cases hc:kind=3∧a.named=false
   ·rw [if_pos hc]
    obtain ⟨h0,wl,wa,h4,h5,h6⟩:=h2
    dsimp only at h0 h4 h5
    have h7:LW true wa ((pre ++ [a]).map Arg.cs):=h6
    rw [List.map_append] at h7
    obtain ⟨u1,u2,u3,u4,u5⟩:=h7.split
    obtain ⟨wn,wv,u6,u7,u8⟩:=LW.arg1 u5
    refine ⟨_,rfl,(h3 _ w1 ⟨h0,wl,u1+(4+wv+0),by dsimp only;omega,h5,?_⟩).mono (by omega),(by refine Ze7 ?_ hk;rfl),rfl,rfl,rfl,by simp⟩
    show LW true _ ((pre ++ [(⟨true,a.value,[]⟩:Arg)]).map Arg.cs)
    rw [List.map_append]
    exact LW.app u4 (LW.mkA true u8 (LW.nil _ 0) (Nat.le_refl _))
   ·rw [if_neg hc]
    exact tx
theorem Zl8 {w:Nat} {e:El} {r:List El} (h:SW w e r) (hk:bot e r) (hr:r.length≤20) (hb:w+4≤1000000):∃ q,ZcP e r=some q∧SW (w+4) q.1 q.2∧bot q.1 q.2∧q.2.length≤20:=by
 have z1:(⟨#[91,91]⟩:ByteArray).size=2:=rfl
 have z2:(⟨#[93,93]⟩:ByteArray).size=2:=rfl
 unfold ZcP
 by_cases k1:e.kind=1
 ·rw [if_pos k1]
  cases r with
  | nil=>have:e.kind=0:=hk;omega
  | cons e2 r=>
    obtain ⟨w1,w2,h0,h1,h2⟩:=h
    obtain ⟨_,wl,wa,h3,h4,h5⟩:=h1
    obtain ⟨a,a1,a2,a3,a4⟩:=Zez (s:=⟨#[91,91]⟩) h2 hk (by omega)
    obtain ⟨u1,u2,u3,u4,u5⟩:=a2.top
    obtain ⟨b,b1,b2,b3⟩:=Zia u4 h4 (by omega)
    have b4:=u5 b _ b2
    obtain ⟨c,c1,c2,c3,c4⟩:=Zez (s:=⟨#[93,93]⟩) b4 (Ze7 b3.1 a3) (by omega)
    refine ⟨(c,r),?_,c2.mono (by omega),c3,by simp at hr;dsimp only;omega⟩
    dsimp only
    rw [a1]
    show ((Zdr a e.list).bind fun b=>(Zby b ⟨#[93,93]⟩).map fun c=>(c,r))=_
    rw [b1]
    show ((Zby b ⟨#[93,93]⟩).map fun c=>(c,r))=_
    rw [c1]
    rfl
 ·rw [if_neg k1]
  obtain ⟨c,c1,c2,c3,_⟩:=Zez (s:=⟨#[93,93]⟩) h hk (by omega)
  exact ⟨(c,r),by rw [c1];rfl,c2.mono (by omega),c3,hr⟩
theorem Zm4 {w:Nat} {e:El} {r:List El} {k:Int} {s:ByteArray} (h:SW w e r) (hk:bot e r) (hr:r.length≤20) (hb:w+s.size+1≤1000000):∃ q,Zd9 k s e r=some q∧SW (w+s.size+1) q.1 q.2∧bot q.1 q.2∧q.2.length≤20:=by
 unfold Zd9
 by_cases h0:ZaZ k e r=0
 ·rw [if_pos h0]
  obtain ⟨c,c1,c2,c3,_⟩:=Zez (s:=s) h hk (by omega)
  exact ⟨(c,r),by rw [c1];rfl,c2,c3,hr⟩
 ·rw [if_neg h0]
  have hle:=Zhz k e r
  obtain ⟨⟨x,r1⟩,q1,q2,q3,y,q4,q5⟩:=Zip (r.length - ZaZ k e r) h (by omega) (by omega)
  dsimp only at q2 q3
  have hlen:r1.length=ZaZ k e r:=by rw [q3,List.length_drop];omega
  rw [q1]
  cases r1 with
  | nil=>simp at hlen;omega
  | cons e2 r2=>
    obtain ⟨w1,w2,u0,u1,u2⟩:=q2
    obtain ⟨_,wl,wa,v1,v2,v3⟩:=u1
    have hb2:bot e2 r2:=by
     have:=Zk4 (r.length - ZaZ k e r) hk q4 (by omega)
     rw [← q3] at this
     exact this
    obtain ⟨e3,n1,n2,n3,_⟩:=Zk5 (n:=⟨6,k,⟨#[]⟩,x.list,[]⟩) u2 hb2 (LW.mk1 6 k ⟨#[]⟩ v2 (LW.nil _ 0) (Nat.le_refl _)) (by have z:(⟨#[]⟩:ByteArray).size=0:=rfl;omega)
    refine ⟨(e3,r2),?_,n2.mono (by have z:(⟨#[]⟩:ByteArray).size=0:=rfl;omega),n3,by simp at hlen;dsimp only;omega⟩
    show ((Zf9 e2 ⟨6,k,⟨#[]⟩,x.list,[]⟩).map fun e3=>(e3,r2))=_
    rw [n1]
    rfl
theorem Ztg {α:Type} {x:Option α} {v:α} (h:Tot x (fun r=>r=v)):x=some v:=by
 obtain ⟨w,h1,h2⟩:=h
 rw [h1,h2]
theorem ZrA {w:Nat} {c:Int} {e:El} (h:EW w e):∃ wn,wn+19+e.count.toNat≤w∧LW false wn [(Zfl c e).cs]:=by
 obtain ⟨_,wl,wa,h1,h2,h3⟩:=h
 exact ⟨wl+wa+1,by omega,LW.mk1 _ _ _ h2 h3 (by have z:(⟨#[]⟩:ByteArray).size=0:=rfl;omega)⟩
theorem Zur {w:Nat} {c:Int} {e:El} {r:List El} (h:SW w e r) (hk:bot e r) (h0:0≤c) (hb:w+c.toNat+1≤1000000):∃ q,Zt0 c e r=some q∧SW (w+c.toNat+1) q.1 q.2∧bot q.1 q.2∧q.2=r:=by
 obtain ⟨s,h1,h2,_⟩:=ZuL (b:=125) h0 (by omega)
 obtain ⟨e',h3,h4,h5,_⟩:=Zez (s:=s) h hk (by omega)
 refine ⟨(e',r),?_,h4.mono (by omega),h5,rfl⟩
 unfold Zt0
 rw [h1]
 show ((Zby e s).map fun e'=>(e',r))=_
 rw [h3]
 rfl
theorem Zus {w wn:Nat} {m:Int} {n:Node} {e:El} {r:List El} (h:SW w e r) (hk:bot e r) (hn:LW false wn [n.cs]) (hb:w+wn+2≤1000000):∃ e',ZuU e m n=some e'∧SW (w+wn+2) e' r∧bot e' r:=by
 have z:(⟨#[123]⟩:ByteArray).size=1:=rfl
 have mid:∃ e3,((if m=1 then Zby e ⟨#[123]⟩ else some e):Option El)=some e3∧SW (w+2) e3 r∧bot e3 r:=by
  by_cases hm:m=1
  ·rw [if_pos hm]
   obtain ⟨e3,h1,h2,h3,_⟩:=Zez (s:=⟨#[123]⟩) h hk (by omega)
   exact ⟨e3,h1,h2.mono (by omega),h3⟩
  ·rw [if_neg hm]
   exact ⟨e,rfl,h.mono (by omega),hk⟩
 obtain ⟨e3,h1,h2,h3⟩:=mid
 obtain ⟨e',h4,h5,h6,_⟩:=Zk5 h2 h3 hn (by omega)
 refine ⟨e',?_,h5.mono (by omega),h6⟩
 unfold ZuU
 rw [h1]
 exact h4
theorem Zex:∀ (f:Nat) {c:Int} {e:El} {r:List El} {w:Nat},SW w e r→bot e r→r.length≤20→0≤c→c<f→w+c.toNat+1≤1000000→∃ q,ZaK f c e r=some q∧SW (w+c.toNat+1) q.1 q.2∧bot q.1 q.2∧q.2.length≤20
 | 0,c,e,r,w,_,_,_,h0,h1,_=>by omega
 | f+1,c,e,r,w,h,hk,hr,h0,hf,hb=>by
   have fin:∃ q,Zt0 c e r=some q∧SW (w+c.toNat+1) q.1 q.2∧bot q.1 q.2∧q.2.length≤20:=by
    obtain ⟨q,h1,h2,h3,h4⟩:=Zur h hk h0 hb
    exact ⟨q,h1,h2,h3,by rw [h4];exact hr⟩
   unfold ZaK
   by_cases h2:2≤c
   ·rw [if_pos h2]
    by_cases hz:Zay e r=0
    ·rw [if_pos hz]
     exact fin
    ·rw [if_neg hz]
     have hle:=ZfK e r
     obtain ⟨⟨x,r1⟩,q1,q2,q3,y,q4,q5⟩:=Zip (r.length - Zay e r) h (by omega) (by omega)
     dsimp only at q2 q3 q5
     have hlen:r1.length=Zay e r:=by rw [q3,List.length_drop];omega
     have hbx:bot x r1:=by
      have:=Zk4 (r.length - Zay e r) hk q4 (by omega)
      rw [← q3] at this
      exact Ze7 q5.1 this
     have hbb:=hbx
     rw [q1]
     cases r1 with
     | nil=>simp at hlen;omega
     | cons e2 r2=>
       obtain ⟨w1,w2,u0,u1,u2⟩:=q2
       have hx0:0≤x.count:=u1.1.2
       have hxw:x.count.toNat≤w1:=by obtain ⟨_,wl,wa,h1,_⟩:=u1;omega
       obtain ⟨wn,n1,n2⟩:=ZrA (c:=c) u1
       have hK:2≤ZbT c x.count:=by unfold ZbT;split<;>omega
       have hKc:ZbT c x.count≤c:=by unfold ZbT;split<;>omega
       have hcc:(c - ZbT c x.count).toNat+2≤c.toNat:=by omega
       show ∃ q,(if c≤9223372036854775807∧0≤x.count∧x.count≤9223372036854775807 then
        (if 2≤x.count - ZbT c x.count then ZaK f (c - ZbT c x.count) ⟨x.kind,x.tag,x.count - ZbT c x.count,[(Zfl c x).cs],none⟩ (e2::r2)
         else (ZuU e2 (x.count - ZbT c x.count) (Zfl c x)).bind fun e4=>ZaK f (c - ZbT c x.count) e4 r2) else none)=some q∧_
       rw [if_pos ⟨by omega,hx0,by omega⟩]
       by_cases hm:2≤x.count - ZbT c x.count
       ·rw [if_pos hm]
        have hnew:SW w ⟨x.kind,x.tag,x.count - ZbT c x.count,[(Zfl c x).cs],none⟩ (e2::r2):=by
         refine ⟨wn+20+(x.count - ZbT c x.count).toNat,w2,by omega,⟨⟨u1.1.1,by dsimp only;omega⟩,wn,0,by dsimp only;omega,n2,.nil _ _⟩,u2⟩
        obtain ⟨q,a1,a2,a3,a4⟩:=Zex f (c:=c - ZbT c x.count) (w:=w) hnew (show bot _ (e2::r2) from hbb) (by omega) (by omega) (by omega) (by omega)
        exact ⟨q,a1,a2.mono (by omega),a3,a4⟩
       ·rw [if_neg hm]
        have hb2:bot e2 r2:=hbb
        obtain ⟨e4,o1,o2,o3⟩:=Zus (m:=x.count - ZbT c x.count) u2 hb2 n2 (by omega)
        rw [o1]
        simp only [List.length_cons] at hlen
        obtain ⟨q,a1,a2,a3,a4⟩:=Zex f (c:=c - ZbT c x.count) (w:=w) (o2.mono (by omega)) o3 (by omega) (by omega) (by omega) (by omega)
        exact ⟨q,a1,a2.mono (by omega),a3,a4⟩
   ·rw [if_neg h2]
    exact fin
structure TokOK (s:ByteArray) (t:Tok):Prop where
 lo:0≤t.from_
 le:t.from_≤t.to_
 hi:t.to_≤(s.size:Int)
 nowiki:t.kind=10→t.from_+17≤t.to_
 tago:t.kind=11→∃ k,Zdc s t=some k∧1≤k∧k≤3
 tagc:t.kind=12→∃ k,Zdc s t=some k
theorem Zut {s:ByteArray} {t:Tok} (h:TokOK s t):∃ x,Zb4 s t=some x∧x.size=(t.to_ - t.from_).toNat∧x=s.extract t.from_.toNat t.to_.toNat:=by
 have h1:=h.lo
 have h2:=h.le
 have h3:=h.hi
 refine ⟨s.extract t.from_.toNat t.to_.toNat,?_,by rw [ByteArray.size_extract];omega,rfl⟩
 refine Ztg ?_
 unfold Zb4
 refine ZaM (Zj (fun h=>absurd h (by omega)) fun _=>Zj (fun h=>absurd h (by omega)) fun _=>?_)
 rw [decide_eq_false (show ¬ (s.size:Int)<t.to_ by omega)]
 exact ZaT h1 h2 h3 fun m hm _=>Zd hm
theorem Zth {s:ByteArray} {t:Tok} {w:Nat} {e:El} {r:List El} (ht:TokOK s t) (h:SW w e r) (hk:bot e r) (hr:r.length≤20) (hb:w+(t.to_ - t.from_).toNat+30≤1000000) :
  ∃ q,Zn9 s t e r=some q∧SW (w+(t.to_ - t.from_).toNat+30) q.1 q.2∧bot q.1 q.2∧q.2.length≤20:=by
 obtain ⟨x,hx,hz,_⟩:=Zut ht
 have one:∀ {o:Option El} {w':Nat},w'≤w+(t.to_ - t.from_).toNat+30→(∃ e',o=some e'∧SW w' e' r∧bot e' r)→∃ q,(o.map fun e'=>(e',r))=some q∧SW (w+(t.to_ - t.from_).toNat+30) q.1 q.2∧bot q.1 q.2∧q.2.length≤20:=by
  rintro o w' hw ⟨e',rfl,h1,h2⟩
  exact ⟨(e',r),rfl,h1.mono hw,h2,hr⟩
 have up:∀ {o:Option (El×List El)} {w':Nat},w'≤w+(t.to_ - t.from_).toNat+30→(∃ q,o=some q∧SW w' q.1 q.2∧bot q.1 q.2∧q.2.length≤20)→∃ q,o=some q∧SW (w+(t.to_ - t.from_).toNat+30) q.1 q.2∧bot q.1 q.2∧q.2.length≤20:=by
  rintro o w' hw ⟨q,rfl,h1,h2,h3⟩
  exact ⟨q,rfl,h1.mono hw,h2,h3⟩
 unfold Zn9
 rw [hx]
 show ∃ q,(if t.kind=1∨t.kind=2 then (Zby e x).map fun e'=>(e',r) else _)=some q∧_
 by_cases k1:t.kind=1∨t.kind=2
 ·rw [if_pos k1]
  obtain ⟨e',h1,h2,h3,_⟩:=Zez (s:=x) h hk (by omega)
  exact one (by omega) ⟨e',h1,h2,h3⟩
 rw [if_neg k1]
 have z0:(⟨#[]⟩:ByteArray).size=0:=rfl
 by_cases k9:t.kind=9
 ·rw [if_pos k9]
  obtain ⟨e',h1,h2,h3,_⟩:=Zk5 (n:=⟨2,0,x,[],[]⟩) h hk (LW.mk1 2 0 x (LW.nil _ 0) (LW.nil _ 0) (Nat.le_refl _)) (by omega)
  exact one (by omega) ⟨e',h1,h2,h3⟩
 rw [if_neg k9]
 by_cases k10:t.kind=10
 ·rw [if_pos k10]
  have hn:=ht.nowiki k10
  have hw:w64 ((x.size:Int) - 9)=(x.size:Int) - 9:=ZaO (by omega) (by have:=ht.hi;have:=ht.lo;omega)
  rw [hw]
  have e1:ZfP x 8 ((x.size:Int) - 9)=some (x.extract 8 (x.size - 9)):=by
   unfold ZfP
   rw [if_pos ⟨by omega,by omega,by omega⟩]
   have:(((x.size:Int) - 9)).toNat=x.size - 9:=by omega
   rw [this]
   rfl
  rw [e1]
  have z2:(x.extract 8 (x.size - 9)).size≤x.size:=by rw [ByteArray.size_extract];omega
  obtain ⟨e',h1,h2,h3,_⟩:=Zk5 (n:=⟨3,0,x.extract 8 (x.size - 9),[],[]⟩) h hk (LW.mk1 3 0 _ (LW.nil _ 0) (LW.nil _ 0) (Nat.le_refl _)) (by omega)
  exact one (by omega) ⟨e',h1,h2,h3⟩
 rw [if_neg k10]
 by_cases k3:t.kind=3
 ·rw [if_pos k3]
  exact up (by omega) (Zm3 (k:=3) (t:=0) (c:=x.size) (x:=x) h hk hr (by omega) (by omega) (by omega) (by omega))
 rw [if_neg k3]
 by_cases k5:t.kind=5
 ·rw [if_pos k5]
  exact up (by omega) (Zm3 (k:=1) (t:=0) (c:=0) (x:=x) h hk hr (by omega) (by omega) (by omega) (by omega))
 rw [if_neg k5]
 by_cases k11:t.kind=11
 ·rw [if_pos k11]
  obtain ⟨k,g1,g2,g3⟩:=ht.tago k11
  rw [g1]
  exact up (by omega) (Zm3 (k:=2) (t:=k) (c:=0) (x:=x) h hk hr (by omega) (by omega) (by omega) (by omega))
 rw [if_neg k11]
 by_cases k7:t.kind=7
 ·rw [if_pos k7]
  obtain ⟨e',h1,h2,h3,_⟩:=ZuM h hk (by omega)
  exact one (by omega) ⟨e',h1,h2,h3⟩
 rw [if_neg k7]
 by_cases k8:t.kind=8
 ·rw [if_pos k8]
  obtain ⟨e',h1,h2,h3,_⟩:=Zse h hk (by omega)
  exact one (by omega) ⟨e',h1,h2,h3⟩
 rw [if_neg k8]
 by_cases k6:t.kind=6
 ·rw [if_pos k6]
  exact up (by omega) (Zl8 h hk hr (by omega))
 rw [if_neg k6]
 by_cases k12:t.kind=12
 ·rw [if_pos k12]
  obtain ⟨k,g1⟩:=ht.tagc k12
  rw [g1]
  exact up (by omega) (Zm4 (k:=k) (s:=x) h hk hr (by omega))
 rw [if_neg k12]
 by_cases k4:t.kind=4
 ·rw [if_pos k4]
  exact up (by omega) (Zex (x.size+1) (c:=x.size) h hk hr (by omega) (by omega) (by omega))
 rw [if_neg k4]
 exact ⟨(e,r),rfl,h.mono (by omega),hk,hr⟩
def Zh3:List Tok→Nat
 | []=>0
 | t::l=>(t.to_ - t.from_).toNat+30+Zh3 l
theorem Znr {s:ByteArray}:∀ {l:List Tok} {w:Nat} {e:El} {r:List El},(∀ t ∈ l,TokOK s t)→SW w e r→bot e r→r.length≤20→w+Zh3 l≤1000000→∃ q,ZiK s l e r=some q∧SW (w+Zh3 l) q.1 q.2∧bot q.1 q.2∧q.2.length≤20
 | [],w,e,r,_,h,hk,hr,_=>⟨(e,r),rfl,h,hk,hr⟩
 | t::l,w,e,r,hl,h,hk,hr,hb=>by
   unfold Zh3 at hb
   obtain ⟨q,q1,q2,q3,q4⟩:=Zth (hl t (List.mem_cons_self ..)) h hk hr (by omega)
   obtain ⟨q',p1,p2,p3,p4⟩:=Znr (fun t ht=>hl t (List.mem_cons_of_mem _ ht)) q2 q3 q4 (by omega)
   refine ⟨q',?_,p2.mono (by show _≤w+((t.to_ - t.from_).toNat+30+Zh3 l);omega),p3,p4⟩
   show ((Zn9 s t e r).bind fun q=>ZiK s l q.1 q.2)=_
   rw [q1]
   exact p1
theorem Zk7 {p l:List UInt8} {n:Nat} (h:p.isPrefixOf (l.take n)=true):p.isPrefixOf l=true:=
 List.isPrefixOf_iff_prefix.2 ((List.isPrefixOf_iff_prefix.1 h).trans (List.take_prefix _ _))
theorem Zk8 {p l:List UInt8} (h:p.isPrefixOf l=true):l.take p.length=p:=by
 obtain ⟨r,rfl⟩:=List.isPrefixOf_iff_prefix.1 h
 simp
theorem ZhC (p:List UInt8):p.isPrefixOf p=true:=List.isPrefixOf_iff_prefix.2 (List.prefix_refl _)
theorem ZqI (pfx l:List UInt8) (h:0<(Zga pfx l).2):Zga pfx (l.take (Zga pfx l).2.toNat)=Zga pfx l∧(l.take (Zga pfx l).2.toNat).length=(Zga pfx l).2.toNat:=by
 have hl:=Zk1 pfx l
 refine ⟨?_,?_⟩
 ·unfold Zga at h ⊢
  split
  ·rename_i h1
   simp only [Int.toNat_natCast]
   rw [if_pos (by rw [Zk8 h1];exact ZhC _)]
  rename_i h1
  rw [if_neg h1] at h
  split
  ·rename_i h2
   simp only [Int.toNat_natCast]
   rw [if_neg (fun h3=>h1 (Zk7 h3)),if_pos (by rw [Zk8 h2];exact ZhC _)]
  rename_i h2
  rw [if_neg h2] at h
  split
  ·rename_i h3
   simp only [Int.toNat_natCast]
   rw [if_neg (fun h4=>h1 (Zk7 h4)),if_neg (fun h4=>h2 (Zk7 h4)),if_pos (by rw [Zk8 h3];exact ZhC _)]
  rename_i h3
  rw [if_neg h3] at h
  cases h
 ·rw [List.length_take]
  rcases hl with hl | hl
  ·rw [hl] at h;cases h
  ·omega
theorem ZtO {L:List UInt8} {k:Int} {a b:Nat} (h:a≤b) (h2:b≤L.length):Zb4 (bs L) ⟨k,(a:Int),(b:Int)⟩=some (bs ((L.take b).drop a)):=by
 have z:(bs L).size=L.length:=rfl
 refine Za2 ?_
 unfold Zb4
 refine ZaM (Zj (fun h=>absurd h (by dsimp only;omega)) fun _=>Zj (fun h=>absurd h (by dsimp only;omega)) fun _=>?_)
 rw [decide_eq_false (show ¬ ((bs L).size:Int)<(b:Int) by omega)]
 exact Zb (ZtR L a b h h2) (Zd rfl)
theorem ZsO {L:List UInt8} {k:Int} {a b:Nat} (h:a≤b) (h2:b≤L.length) (pfx:List UInt8) (hp:(k=11∧pfx = [60])∨(k=12∧pfx = [60,47])) :
  Zdc (bs L) ⟨k,(a:Int),(b:Int)⟩=some (if (Zga pfx ((L.take b).drop a)).2=(((L.take b).drop a).length:Int) then (Zga pfx ((L.take b).drop a)).1 else 0):=by
 refine Za2 ?_
 unfold Zdc
 have body:Tot ((Zb4 (bs L) ⟨k,(a:Int),(b:Int)⟩).bind fun r2=>(Zcb r2 (bs pfx)).bind fun r3=>if decide (r3.2=(r2.size:Int))=true then (some r3.1:Option Int) else some 0) fun r=>r=if (Zga pfx ((L.take b).drop a)).2=(((L.take b).drop a).length:Int) then (Zga pfx ((L.take b).drop a)).1 else 0:=by
  refine Zb (ZtO h h2) ?_
  refine Zb (ZfE pfx _ (by rcases hp with ⟨_,rfl⟩ | ⟨_,rfl⟩<;>decide)) ?_
  refine Zj (fun h3=>?_) fun h3=>?_
  ·rw [if_pos (show (Zga pfx ((L.take b).drop a)).2=(((L.take b).drop a).length:Int) from h3)]
   exact Zd rfl
  ·rw [if_neg (show ¬ (Zga pfx ((L.take b).drop a)).2=(((L.take b).drop a).length:Int) from h3)]
   exact Zd rfl
 rcases hp with ⟨rfl,rfl⟩ | ⟨rfl,rfl⟩
 ·exact ZaM (Zj (fun _=>body) fun h=>absurd rfl h)
 ·exact ZaM (Zj (fun h=>by cases h) fun _=>Zj (fun _=>body) fun h=>absurd rfl h)
theorem ZuO {L:List UInt8} {i:Nat} {q:Int×Int} (hi:i≤L.length) (h:ZhA (L.drop i) q) (h0:¬ q.1=0):TokOK (bs L) ⟨q.1,(i:Int),(i:Int)+q.2⟩:=by
 have z:(bs L).size=L.length:=rfl
 have hlen:(L.drop i).length=L.length - i:=List.length_drop
 rcases h with h | ⟨_,⟨k1,k2⟩,k10,k11⟩
 ·exact absurd h h0
 have e2:(i:Int)+q.2=((i+q.2.toNat:Nat):Int):=by omega
 refine ⟨by dsimp only;omega,by dsimp only;omega,by dsimp only;omega,(fun h=>by have:=k10 h;dsimp only;omega),(fun h=>?_),(fun h=>?_)⟩
 ·obtain ⟨t1,t2⟩:=k11 h
  dsimp only at h
  rw [h,e2]
  refine ⟨_,ZsO (by omega) (by omega) [60] (.inl ⟨rfl,rfl⟩),?_⟩
  have e3:(L.take (i+q.2.toNat)).drop i=(L.drop i).take q.2.toNat:=by rw [List.drop_take];congr 1;omega
  obtain ⟨u1,u2⟩:=ZqI [60] (L.drop i) t1
  rw [← t2] at u1 u2
  rw [e3,u1,u2,if_pos (by omega)]
  rcases Zk1 [60] (L.drop i) with u3 | u3
  ·rw [u3] at t1;cases t1
  ·exact u3.1
 ·dsimp only at h
  rw [h,e2]
  exact ⟨_,ZsO (by omega) (by omega) [60,47] (.inr ⟨rfl,rfl⟩)⟩
theorem ZnM {L:List UInt8} {a b:Nat} (h:a≤b) (h2:b≤L.length):TokOK (bs L) ⟨1,(a:Int),(b:Int)⟩:=by
 have z:(bs L).size=L.length:=rfl
 exact ⟨by dsimp only;omega,by dsimp only;omega,by dsimp only;omega,(fun h=>by cases h),(fun h=>by cases h),(fun h=>by cases h)⟩
theorem Zsk (L:List UInt8):∀ (f st i:Nat),st≤i→i≤L.length→(∀ t ∈ Ze6 L f st i,TokOK (bs L) t)∧Zh3 (Ze6 L f st i)≤31 * (L.length - st):=by
 have fin:∀ st,st≤L.length→(∀ t ∈ (if st<L.length then [(⟨1,(st:Int),(L.length:Int)⟩:Tok)] else []),TokOK (bs L) t)∧Zh3 (if st<L.length then [(⟨1,(st:Int),(L.length:Int)⟩:Tok)] else [])≤31 * (L.length - st):=fun st hst=>by
  split
  ·refine ⟨fun t ht=>?_,?_⟩
   ·rw [List.mem_singleton.1 ht]
    exact ZnM hst (Nat.le_refl _)
   ·simp only [Zh3]
    omega
  ·exact ⟨(fun t ht=>by cases ht),Nat.zero_le _⟩
 intro f
 induction f with
 | zero=>exact fun st i h1 h2=>fin st (by omega)
 | succ f ih=>
   intro st i h1 h2
   rw [Ze6]
   by_cases hi:i<L.length
   ·rw [if_pos hi]
    have hok:=Zl5 (L.drop i)
    have hlen:(L.drop i).length=L.length - i:=List.length_drop
    generalize hq:ZfN (L.drop i)=q at hok ⊢
    by_cases h0:q.1=0
    ·rw [if_pos h0]
     exact ih st (i+1) (by omega) (by omega)
    ·rw [if_neg h0]
     have ht:=ZuO (Nat.le_of_lt hi) hok h0
     rcases hok with hok | ⟨_,⟨k1,k2⟩,_⟩
     ·exact absurd hok h0
     obtain ⟨r1,r2⟩:=ih (i+q.2.toNat) (i+q.2.toNat) (Nat.le_refl _) (by omega)
     refine ⟨fun t hm=>?_,?_⟩
     ·rcases List.mem_append.1 hm with hm | hm
      ·split at hm
       ·rw [List.mem_singleton.1 hm]
        exact ZnM h1 (by omega)
       ·cases hm
      ·rcases List.mem_cons.1 hm with rfl | hm
       ·exact ht
       ·exact r1 t hm
     ·split
      ·simp only [List.singleton_append,Zh3]
       omega
      ·simp only [List.nil_append,Zh3]
       omega
   ·rw [if_neg hi]
    exact fin st (by omega)
theorem Zm5:∀ {l:List (List PV)} {w:Nat},LW false w l→∃ xs:List Node,l=xs.map Node.cs
 | [],w,_=>⟨[],rfl⟩
 | x::l,w,h=>by
   obtain ⟨n,wk,wa,wl,rfl,_,_,_,hl⟩:=h.node_inv
   obtain ⟨xs,rfl⟩:=Zm5 hl
   exact ⟨n::xs,rfl⟩
theorem ZuP:EW 20 ⟨0,0,0,[],none⟩:=EW.new (by decide) (by decide)
theorem ZqJ (L:List UInt8) (h:L.length≤8192):∃ l:List Node,ZdW (bs L)=some (l,0)∧LW false 300000 (l.map Node.cs):=by
 obtain ⟨h1,h2⟩:=Zsk L L.length 0 0 (Nat.le_refl _) (Nat.zero_le _)
 have hlen:(Ze6 L L.length 0 0).length≤Zh3 (Ze6 L L.length 0 0):=by
  generalize Ze6 L L.length 0 0=l
  induction l with
  | nil=>exact Nat.le_refl _
  | cons t l ih=>simp only [Zh3,List.length_cons];omega
 obtain ⟨⟨e,r⟩,q1,q2,q3,q4⟩:=Znr (s:=bs L) (w:=20) (e:=⟨0,0,0,[],none⟩) (r:=[]) h1 ZuP rfl (by simp) (by omega)
 obtain ⟨⟨z,r2⟩,p1,p2,p3,_⟩:=Zip r.length q2 (Nat.le_refl _) (by omega)
 dsimp only at p2 p3
 rw [List.drop_length] at p3
 subst p3
 obtain ⟨_,wl,wa,k1,k2,_⟩:=p2
 obtain ⟨xs,hxs⟩:=Zm5 k2
 refine ⟨xs,?_,by rw [← hxs];exact k2.mono (by omega)⟩
 unfold ZdW Zpn
 rw [Zk3 L h]
 show (((if (0:Int)=0 then (if (Ze6 L L.length 0 0).length≤4611686018427387904 then (ZiK (bs L) (Ze6 L L.length 0 0) ⟨0,0,0,[],none⟩ []).bind fun p=>(Zfi p.2.length p.1 p.2).map fun z=>(z.1.list,(0:Int)) else none) else some ([],0)):Option (List (List PV)×Int)).bind fun q=>(Zbh q.1).map fun l=>(l,q.2))=_
 rw [if_pos rfl,if_pos (by omega),q1]
 show (((Zfi r.length e r).map fun z=>(z.1.list,(0:Int))).bind fun q=>(Zbh q.1).map fun l=>(l,q.2))=_
 rw [p1]
 show (Zbh z.list).map (fun l=>(l,(0:Int)))=_
 rw [hxs,ZcY]
 rfl
def Zt3 (l:Link):Prop:=(l.kind=1∨l.kind=2)∧l.title.valid=true
structure GoodF (c:Nat) (f:Finder):Prop where
 ll:f.links.length≤c
 ml:f.members.length≤c
 gl:∀ x ∈ f.links,Zt3 x
 gm:∀ x ∈ f.members,x.category.space=4
theorem GoodF.mono {c d:Nat} {f:Finder} (h:GoodF c f) (hc:c≤d):GoodF d f:=⟨by have:=h.ll;omega,by have:=h.ml;omega,h.gl,h.gm⟩
theorem GoodF.link {c:Nat} {f:Finder} (h:GoodF c f) {x:Link} (hx:Zt3 x):GoodF (c+1) ⟨f.links ++ [x],f.members⟩:=
 ⟨by have:=h.ll;simp only [List.length_append,List.length_singleton];omega,by have:=h.ml;dsimp only;omega,fun y hy=>by
  rcases List.mem_append.1 hy with hy | hy
  ·exact h.gl y hy
  ·rw [List.mem_singleton.1 hy];exact hx,h.gm⟩
theorem GoodF.memb {c:Nat} {f:Finder} (h:GoodF c f) {x:Memb} (hx:x.category.space=4):GoodF (c+1) ⟨f.links,f.members ++ [x]⟩:=
 ⟨by have:=h.ll;dsimp only;omega,by have:=h.ml;simp only [List.length_append,List.length_singleton];omega,h.gl,fun y hy=>by
  rcases List.mem_append.1 hy with hy | hy
  ·exact h.gm y hy
  ·rw [List.mem_singleton.1 hy];exact hx⟩
theorem ZoQ (p:ByteArray) (h:p.size≤300000):Tot (ZcT p) fun r=>r.2=0→r.1.valid=true:=by
 unfold ZcT
 exact Zu (ZuG p _ (by omega)) fun r1 h1=>Zu (Ztr r1.1 (by omega)) fun r2 h2=>Zd h2
theorem Zq4 {c:Nat} {f:Finder} {s:ByteArray} (h:s.size≤300000) (hc:c+s.size≤1000000) (hg:GoodF c f):Tot (ZaI f s) (GoodF (c+s.size)):=by
 unfold ZaI
 refine Zan (fun x=>x.1.size≤s.size∧GoodF (c+(s.size - x.1.size)) ⟨x.2.1,x.2.2⟩) (fun x=>x.1.size) ⟨Nat.le_refl _,hg.mono (by omega)⟩ (by dsimp only;omega) ?_
 rintro ⟨x,L,M⟩ rec ⟨h1,h2⟩ ih
 dsimp only at h1 h2 ih ⊢
 have e:x.data.toList.length=x.size:=rfl
 refine Zb (v:=Lib.index x.data.toList [91,91]) (by unfold strings_Index;rw [if_pos (by omega)]) ?_
 have r1:=Lib.index_room x.data.toList [91,91]
 simp only [List.length_cons,List.length_nil] at r1
 generalize Lib.index x.data.toList [91,91]=r44 at r1 ⊢
 refine Zj (fun _=>Zd (h2.mono (by omega))) fun hr=>?_
 have r2:=r1 (by omega)
 rw [ZaO (by omega) (by omega),ZaO (by omega) (by omega)]
 refine ZaT (by omega) (by omega) (by omega) fun l45 _ h45=>ZaT (by omega) (by omega) (by omega) fun l46 _ h46=>?_
 refine Zu (Zqn l45 (by omega)) fun r47 h47=>?_
 refine Zj (fun _=>Zd (h2.mono (by omega))) fun hr47=>?_
 refine ZaT (by omega) (by omega) (by omega) fun l48 _ h48=>?_
 have next:∀ (L':List Link) (M':List Memb),GoodF (c+(s.size - x.size)+1) ⟨L',M'⟩→Tot (rec (l46,L',M')) (GoodF (c+s.size)):=fun L' M' hL=>ih _ ⟨by dsimp only;omega,hL.mono (by dsimp only;omega)⟩ (by dsimp only;omega)
 have same:=h2.mono (Nat.le_succ _)
 have hll:=h2.ll
 have hml:=h2.ml
 dsimp only at hll hml
 refine Zap (fun q=>∀ b:Bool,Tot (q b) (GoodF (c+s.size))) (fun b=>?_) fun k6 hk6=>?_
 ·refine ZZ (fun _=>next _ _ same) fun _=>?_
  refine Zu (ZoQ l48 (by omega)) fun r52 hv=>ZdY (fun _=>next _ _ same) fun h0=>?_
  have hv:=hv h0
  refine Zap (fun q=>(r52.1.space=4→Tot (q true) (GoodF (c+s.size)))∧Tot (q false) (GoodF (c+s.size))) ⟨fun h4=>?_,?_⟩ fun k7 hk7=>?_
  ·refine ZZ (fun _=>?_) fun h=>by cases h
   refine ZaT (by omega) (by omega) (by omega) fun l56 _ h56=>Zu (Zqo l56 (by omega) (by omega)) fun r57 _=>?_
   exact Zic 2000000 (by simp only [List.length_singleton];omega) (by omega) (by omega) (next _ _ (h2.memb h4))
  ·refine ZZ (fun h=>by cases h) fun _=>?_
   exact Zic 2000000 (by simp only [List.length_singleton];omega) (by omega) (by omega) (next _ _ (h2.link ⟨.inl rfl,hv⟩))
  ·refine Zj (fun h4=>?_) fun _=>hk7.2
   refine Zb (v:=ZbS Zqa l48) (by unfold Zbd;rw [if_neg (by decide),if_pos rfl]) ?_
   refine Zu (Zil _ _) fun r61 _=>?_
   cases r61 with
   | true=>exact hk7.2
   | false=>exact hk7.1 h4
 ·refine Zu (Zr9 l48 _ (by omega)) fun r62 _=>ZZ (fun _=>hk6 _) fun _=>?_
  exact Zu (Zr9 l48 _ (by omega)) fun r63 _=>hk6 _
theorem Zmt:∀ (l:List Node) (w:Nat) (acc:List UInt8),LW false w (l.map Node.cs)→acc.length+w≤1000000→Tot (ZgW acc l) fun r=>∀ t,r=some t→t.length≤acc.length+w
 | [],w,acc,_,_=>Zd fun t ht=>by injection ht with ht;rw [← ht];omega
 | x::l,w,acc,h,hb=>by
   obtain ⟨n,wk,wa,wl,e,h1,hk,ha,hl⟩:=LW.node_inv (show LW false w (x.cs::l.map Node.cs) from h)
   obtain rfl:=Znh e
   unfold ZgW
   split
   ·rw [if_pos (by omega)]
    have e:x.text.data.toList.length=x.text.size:=rfl
    refine (Zmt l wl _ hl (by rw [List.length_append];omega)).mono fun r hr t ht=>?_
    have:=hr t ht
    rw [List.length_append] at this
    omega
   ·split
    ·exact (Zmt l wl _ hl (by omega)).mono fun r hr t ht=>by have:=hr t ht;omega
    ·exact Zd fun t ht=>by cases ht
theorem Zmu (l:List Node) (w:Nat) (h:LW false w (l.map Node.cs)) (hb:w≤300000):Tot (ZeM l) fun r=>r.1.size≤w:=by
 obtain ⟨r,h1,h2⟩:=Zmt l w [] h (by simp;omega)
 unfold ZeM
 rw [h1]
 cases r with
 | none=>exact Zd (Nat.zero_le _)
 | some t=>
   have:=h2 t rfl
   refine Zd ?_
   show t.length≤w
   simpa using this
theorem Zne (l:List UInt8) (s:ByteArray):(ZbS l s).size≤s.size:=(List.dropWhile_suffix _).length_le
theorem Zq5 (l:List UInt8) (s:ByteArray):(ZcK l s).size≤s.size:=by
 show (s.data.toList.reverse.dropWhile l.contains).reverse.length≤_
 rw [List.length_reverse]
 refine Nat.le_trans (List.dropWhile_suffix _).length_le ?_
 rw [List.length_reverse]
 exact Nat.le_refl _
theorem ZnT {t:Title} (h:t.valid=true):(⟨3,t.name⟩:Title).valid=true:=by
 unfold Title.valid at h ⊢
 simp only [Bool.and_eq_true] at h ⊢
 obtain ⟨⟨⟨⟨⟨⟨⟨h1,h2⟩,h3⟩,h4⟩,h5⟩,h6⟩,h7⟩,h8⟩:=h
 exact ⟨⟨⟨⟨⟨⟨⟨rfl,rfl⟩,h3⟩,h4⟩,h5⟩,h6⟩,h7⟩,rfl⟩
theorem ZnU (l:List Node) (w:Nat) (h:LW false w (l.map Node.cs)) (hb:w≤300000):Tot (Zbs l) fun r=>r.2=true→r.1.valid=true:=by
 unfold Zbs
 refine Zu (Zmu l w h hb) fun r1 h1=>?_
 have hz:(ZbS Zj9 (ZcK Zj9 r1.1)).size≤r1.1.size:=Nat.le_trans (Zne _ _) (Zq5 _ _)
 refine Zb (v:=ZbS Zj9 (ZcK Zj9 r1.1)) ?_ ?_
 ·unfold Zcl Zcy
  rw [if_pos ⟨by omega,rfl⟩]
  rfl
 generalize ZbS Zj9 (ZcK Zj9 r1.1)=r2 at hz ⊢
 refine Zap (fun q=>∀ b:Bool,Tot (q b) (fun r=>r.2=true→r.1.valid=true)) (fun b=>?_) fun k1 hk1=>?_
 ·refine ZZ (fun _=>Zd fun h=>by cases h) fun _=>?_
  refine Zu (ZoQ r2 (by omega)) fun r6 h6=>ZdY (fun _=>Zd fun h=>by cases h) fun h0=>?_
  have hv:=h6 h0
  refine Zap (fun q=>∀ b:Bool,Tot (q b) (fun r=>r.2=true→r.1.valid=true)) (fun b=>?_) fun k2 hk2=>?_
  ·refine ZaM (ZZ (fun _=>Zd fun _=>ZnT hv) fun _=>Zd fun _=>hv)
  ·refine Zj (fun _=>?_) fun _=>hk2 _
   exact Zu (Zil _ _) fun r _=>hk2 _
 ·refine ZZ (fun _=>hk1 _) fun _=>Zu (Zil _ _) fun r _=>ZZ (fun _=>hk1 _) fun _=>?_
  exact Zu (Zil _ _) fun r _=>hk1 _
theorem Ziu {step:Finder→Node→Option Finder} {W:Nat} (hs:∀ (x:Node) (f:Finder) (c w:Nat),LW false w [x.cs]→w≤W→c+w≤1000000→GoodF c f→Tot (step f x) (GoodF (c+w))) :
  ∀ (l:List Node) (f:Finder) (c w:Nat),LW false w (l.map Node.cs)→w≤W→c+w≤1000000→GoodF c f→Tot (Zh6 step l f) (GoodF (c+w))
 | [],f,c,w,_,_,_,hg=>Zd (hg.mono (by omega))
 | x::l,f,c,w,h,hw,hb,hg=>by
   obtain ⟨w1,w2,h0,h1,h2⟩:=LW.split (l1:=[x.cs]) (l2:=l.map Node.cs) h
   refine Zu (hs x f c w1 h1 (by omega) (by omega) hg) fun f' hf'=>?_
   exact (Ziu hs l f' (c+w1) w2 h2 (by omega) (by omega) hf').mono fun g hg=>hg.mono (by omega)
theorem ZjR {step:Finder→Arg→Option Finder} {W:Nat} (hs:∀ (x:Arg) (f:Finder) (c w:Nat),LW true w [x.cs]→w≤W→c+w≤1000000→GoodF c f→Tot (step f x) (GoodF (c+w))) :
  ∀ (l:List Arg) (f:Finder) (c w:Nat),LW true w (l.map Arg.cs)→w≤W→c+w≤1000000→GoodF c f→Tot (Zh6 step l f) (GoodF (c+w))
 | [],f,c,w,_,_,_,hg=>Zd (hg.mono (by omega))
 | x::l,f,c,w,h,hw,hb,hg=>by
   obtain ⟨w1,w2,h0,h1,h2⟩:=LW.split (l1:=[x.cs]) (l2:=l.map Arg.cs) h
   refine Zu (hs x f c w1 h1 (by omega) (by omega) hg) fun f' hf'=>?_
   exact (ZjR hs l f' (c+w1) w2 h2 (by omega) (by omega) hf').mono fun g hg=>hg.mono (by omega)
theorem Zst:∀ {l:List (List PV)} {w:Nat},LW true w l→∃ xs:List Arg,l=xs.map Arg.cs
 | [],w,_=>⟨[],rfl⟩
 | x::l,w,h=>by
   obtain ⟨n,wk,wa,wl,rfl,_,_,_,hl⟩:=h.arg_inv
   obtain ⟨xs,rfl⟩:=Zst hl
   exact ⟨n::xs,rfl⟩
theorem Znf:∀ (m:Nat) (l:List Node) (f:Finder) (c w:Nat),LW false w (l.map Node.cs)→w<m→w≤300000→c+w≤1000000→GoodF c f→Tot (ZaJ m f l) (GoodF (c+w))
 | 0,_,_,_,_,_,h,_,_,_=>absurd h (Nat.not_lt_zero _)
 | m+1,l,f,c,w,h,hm,hw,hb,hg=>by
   have hlen:=h.len
   rw [List.length_map] at hlen
   rw [ZrW m f l (by omega)]
   refine Ziu (W:=w) (fun x f c w' hx hw' hb hg=>?_) l f c w h (Nat.le_refl _) hb hg
   obtain ⟨wk,wa,h1,hk,ha⟩:=hx.node1
   unfold ZmV
   split
   ·exact (Zq4 (by omega) (by omega) hg).mono fun g hg=>hg.mono (by omega)
   ·split
    ·obtain ⟨xs,hxs⟩:=Zm5 hk
     rw [hxs] at hk ⊢
     refine Zb (ZcY xs) ?_
     exact (Znf m xs f c wk hk (by omega) (by omega) (by omega) hg).mono fun g hg=>hg.mono (by omega)
    ·exact Zd (hg.mono (by omega))
theorem ZoR {f:Finder} {c wk:Nat} {n:Node} (hk:LW false wk n.kids) (hw:wk≤300000) (hb:c≤1000000) (hg:GoodF c f):Tot (Zih f n) (GoodF (c+1)):=by
 unfold Zih
 split
 ·obtain ⟨xs,hxs⟩:=Zm5 hk
  rw [hxs] at hk ⊢
  refine Zb (ZcY xs) (Zu (ZnU xs wk hk hw) fun r hr=>?_)
  split
  ·rename_i h
   have:=hg.ll
   have e:Zjw 32 f.links [(⟨2,r.1⟩:Link)]=some (f.links ++ [⟨2,r.1⟩]):=by
    unfold Zjw
    rw [if_pos (by simp only [List.length_singleton];omega)]
   rw [e]
   exact Zd (hg.link ⟨.inr rfl,hr h⟩)
  ·exact Zd (hg.mono (by omega))
 ·exact Zd (hg.mono (by omega))
theorem ZgG:∀ (m:Nat) (l:List Node) (f:Finder) (c w:Nat),LW false w (l.map Node.cs)→w<m→w≤300000→c+w≤1000000→GoodF c f→Tot (Zt m f l) (GoodF (c+w))
 | 0,_,_,_,_,_,h,_,_,_=>absurd h (Nat.not_lt_zero _)
 | m+1,l,f,c,w,h,hm,hw,hb,hg=>by
   have hlen:=h.len
   rw [List.length_map] at hlen
   have key:Tot (Zh6 (ZgX m) l f) (GoodF (c+w)):=by
    refine Ziu (W:=w) (fun x f c w' hx hw' hb hg=>?_) l f c w h (Nat.le_refl _) hb hg
    obtain ⟨wk,wa,h1,hk,ha⟩:=hx.node1
    unfold ZgX
    split
    ·exact Zd (hg.mono (by omega))
    ·refine Zu (ZoR hk (by omega) (by omega) hg) fun f1 g1=>?_
     obtain ⟨xs,hxs⟩:=Zm5 hk
     obtain ⟨aa,has⟩:=Zst ha
     rw [hxs] at hk ⊢
     rw [has] at ha ⊢
     refine Zb (ZcY xs) (Zu (ZgG m xs f1 (c+1) wk hk (by omega) (by omega) (by omega) g1) fun f2 g2=>?_)
     have ha2:=ha.len
     rw [List.length_map] at ha2
     refine Zb (Zou aa) ?_
     rw [if_pos (by omega)]
     refine (ZjR (W:=wa) (fun y f c w'' hy hw'' hb hg=>?_) aa f2 (c+1+wk) wa ha (Nat.le_refl _) (by omega) g2).mono fun g hg=>hg.mono (by omega)
     obtain ⟨wn,wv,k1,kn,kv⟩:=hy.arg1
     unfold ZkW
     obtain ⟨ns,hns⟩:=Zm5 kn
     obtain ⟨vs,hvs⟩:=Zm5 kv
     rw [hns] at kn ⊢
     rw [hvs] at kv ⊢
     refine Zb (ZcY ns) (Zu (ZgG m ns f c wn kn (by omega) (by omega) (by omega) hg) fun f3 g3=>?_)
     refine Zb (ZcY vs) ?_
     exact (ZgG m vs f3 (c+wn) wv kv (by omega) (by omega) (by omega) g3).mono fun g hg=>hg.mono (by omega)
   obtain ⟨r,hr,hgr⟩:=key
   exact Zpv (Ztu (by omega) hr) hgr
end Go.Proofs.YtmgfammllddkhaaGreatDoor
namespace Go.Proofs.YtmgfammllddkhaaGreatDoor
namespace VL
section
variable {α:Type}
def ZtW (le:α→α→Bool) (r:List α→List α) (x:α) (s:List α):List α→List α
 | []=>x::s
 | y::t=>if le x y=true then x::r (y::t) else y::ZtW le r x s t
def Zad (le:α→α→Bool):List α→List α→List α
 | [],t=>t
 | x::s,t=>ZtW le (Zad le s) x s t
variable {le:α→α→Bool}
theorem ZbM (s:List α):Zad le s []=s:=by cases s<;>rfl
theorem Zdk {x y:α} {s t:List α} (h:le x y=true):Zad le (x::s) (y::t)=x::Zad le s (y::t):=by
 show ZtW le (Zad le s) x s (y::t)=_
 unfold ZtW
 rw [if_pos h]
theorem ZdR {x y:α} {s t:List α} (h:le x y=false):Zad le (x::s) (y::t)=y::Zad le (x::s) t:=by
 show ZtW le (Zad le s) x s (y::t)=_
 rw [ZtW,if_neg (by rw [h];decide)]
 rfl
theorem Zci:∀ (A B C D:List α),(∀ u ∈ A,∀ v ∈ D,le u v=true)→(∀ v ∈ C,∀ u ∈ B,le u v=false)→Zad le (A++B) (C++D)=Zad le A C++Zad le B D
 | [],B,[],D,_,_=>rfl
 | [],[],v::C,D,_,_=>rfl
 | [],u::B,v::C,D,h1,h2=>by
   rw [List.nil_append,List.cons_append,ZdR (h2 v (by simp) u (by simp))]
   have:=Zci [] (u::B) C D h1 fun v hv=>h2 v (List.mem_cons_of_mem _ hv)
   rw [List.nil_append] at this
   rw [this]
   rfl
 | u::A,B,[],[],_,_=>by rw [List.append_nil,ZbM,ZbM,ZbM]
 | u::A,B,[],w::D,h1,h2=>by
   rw [List.nil_append,List.cons_append,Zdk (h1 u (by simp) w (by simp))]
   have:=Zci A B [] (w::D) (fun u hu=>h1 u (List.mem_cons_of_mem _ hu)) h2
   rw [List.nil_append] at this
   rw [this,ZbM,ZbM]
   rfl
 | u::A,B,v::C,D,h1,h2=>by
   rw [List.cons_append,List.cons_append]
   cases h:le u v with
   | true=>
     rw [Zdk h,Zdk h]
     have:=Zci A B (v::C) D (fun u hu=>h1 u (List.mem_cons_of_mem _ hu)) h2
     rw [List.cons_append] at this
     rw [this]
     rfl
   | false=>
     rw [ZdR h,ZdR h]
     have:=Zci (u::A) B C D h1 fun v hv=>h2 v (List.mem_cons_of_mem _ hv)
     rw [List.cons_append] at this
     rw [this]
     rfl
 termination_by A _ C _=>A.length+C.length
theorem ZeA (ht:∀ a b c,le a b=true→le b c=true→le a c=true) (hl:∀ a b,(le a b||le b a)=true) (x:α):∀ (S T:List α),Zh5 le x (Zad le S T)=Zad le (Zh5 le x S) T
 | [],[]=>rfl
 | [],b::T=>by
   show Zh5 le x (b::T)=Zad le [x] (b::T)
   cases h:le x b with
   | true=>
     rw [Zdk h,Zh5,if_pos h]
     rfl
   | false=>
     rw [ZdR h,Zh5,if_neg (by rw [h];decide)]
     have:=ZeA ht hl x [] T
     exact congrArg (b :: ·) this
 | a::S,[]=>by rw [ZbM,ZbM]
 | a::S,b::T=>by
   have tot:∀ a b,le a b=false→le b a=true:=fun a b h=>by have:=hl a b;rw [h] at this;exact this
   cases hxa:le x a with
   | true=>
     have e:Zh5 le x (a::S)=x::a::S:=by rw [Zh5,if_pos hxa]
     rw [e]
     cases hab:le a b with
     | true=>
       rw [Zdk hab,Zdk (ht x a b hxa hab),Zdk hab,Zh5,if_pos hxa]
     | false=>
       rw [ZdR hab]
       cases hxb:le x b with
       | true=>rw [Zdk hxb,ZdR hab,Zh5,if_pos hxb]
       | false=>
         rw [ZdR hxb,Zh5,if_neg (by rw [hxb];decide)]
         have:=ZeA ht hl x (a::S) T
         rw [this,e]
   | false=>
     have e:Zh5 le x (a::S)=a::Zh5 le x S:=by rw [Zh5,if_neg (by rw [hxa];decide)]
     rw [e]
     cases hab:le a b with
     | true=>
       rw [Zdk hab,Zdk hab,Zh5,if_neg (by rw [hxa];decide),ZeA ht hl x S (b::T)]
     | false=>
       have hxb:le x b=false:=by
        cases h:le x b with
        | false=>rfl
        | true=>
          have:=ht x b a h (tot a b hab)
          rw [hxa] at this
          cases this
       rw [ZdR hab,ZdR hab,Zh5,if_neg (by rw [hxb];decide)]
       have:=ZeA ht hl x (a::S) T
       rw [this,e]
 termination_by S T=>S.length+T.length
theorem Zfs (ht:∀ a b c,le a b=true→le b c=true→le a c=true) (hl:∀ a b,(le a b||le b a)=true):∀ (A B:List α),Zak le (A++B)=Zad le (Zak le A) (Zak le B)
 | [],B=>rfl
 | x::A,B=>by
   show Zh5 le x (Zak le (A++B))=Zad le (Zh5 le x (Zak le A)) (Zak le B)
   rw [Zfs ht hl A B,ZeA ht hl]
theorem ZnY (ht:∀ a b c,le a b=true→le b c=true→le a c=true) (hl:∀ a b,(le a b||le b a)=true) (A:List α) (y:α):Zak le (A ++ [y])=Zad le (Zak le A) [y]:=Zfs ht hl A [y]
theorem Ziw {y:α} {A B:List α} (h1:∀ u ∈ A,le u y=true) (h2:∀ u ∈ B,le u y=false):Zad le (A++B) [y]=A++y::B:=by
 have e:Zad le (A++B) [y]=Zad le A []++Zad le B [y]:=Zci A B [] [y] (fun u hu v hv=>List.mem_singleton.1 hv ▸ h1 u hu) (fun v hv=>by cases hv)
 rw [e,ZbM]
 congr 1
 cases B with
 | nil=>rfl
 | cons b B=>rw [ZdR (h2 b (by simp)),ZbM]
theorem Zmx {x:α} {C D:List α} (h1:∀ v ∈ D,le x v=true) (h2:∀ v ∈ C,le x v=false):Zad le [x] (C++D)=C++x::D:=by
 have e:Zad le [x] (C++D)=C++Zad le [x] D:=Zci [] [x] C D (fun u hu=>by cases hu) (fun v hv u hu=>List.mem_singleton.1 hu ▸ h2 v hv)
 rw [e]
 congr 1
 cases D with
 | nil=>rfl
 | cons d D=>rw [Zdk (h1 d (by simp))];rfl
theorem Zaa (l:List α):(Zak le l).length=l.length:=(ZcX le l).length_eq
theorem ZnZ (S T:List α):(Zad le S T).Perm (S++T):=by
 induction S generalizing T with
 | nil=>exact .refl _
 | cons x S ih=>
   induction T with
   | nil=>rw [ZbM,List.append_nil]
   | cons y T ih2=>
     cases h:le x y with
     | true=>
       rw [Zdk h]
       exact (ih (y::T)).cons x
     | false=>
       rw [ZdR h]
       refine (ih2.cons y).trans ?_
       exact (List.perm_middle (a:=y) (l₁:=x::S) (l₂:=T)).symm
theorem ZoZ (S T:List α):(Zad le S T).length=S.length+T.length:=by rw [(ZnZ S T).length_eq,List.length_append]
end
end VL
end Go.Proofs.YtmgfammllddkhaaGreatDoor
namespace Go.Proofs.YtmgfammllddkhaaGreatDoor
open VL
theorem Zbu {α:Type} {l A B:List α} {x:α} {n:Int} (h:l=A++x::B) (hn:n=(A.length:Int)):atI l n=some x:=by
 subst h hn
 unfold atI
 rw [if_pos (by omega),Int.toNat_natCast,List.getElem?_append_right (Nat.le_refl _),Nat.sub_self]
 rfl
theorem Ze4 {α:Type} {l A B:List α} {x y:α} {n:Int} (h:l=A++x::B) (hn:n=(A.length:Int)):ZeX l n y=A++y::B:=by
 subst h hn
 unfold ZeX
 rw [Int.toNat_natCast,List.set_append_right _ _ (Nat.le_refl _),Nat.sub_self]
 rfl
theorem ZeO {a b:Int} (h0:0≤a) (h1:0≤b) (ha:a≤10000000) (hb:b≤10000000):w64 (a+b)=a+b:=ZaO (by omega) (by omega)
theorem Zey {a b:Int} (h0:0≤a) (h1:0≤b) (ha:a≤10000000) (hb:b≤10000000):w64 (a - b)=a - b:=ZaO (by omega) (by omega)
theorem Zql (P X Q Y S:List Memb) (hXY:X.length=Y.length) (hL:(P++X++Q++Y++S).length≤1000000) (p1 p2 n:Int) (h1:p1=(P.length:Int)) (h2:p2=((P++X++Q).length:Int)) (hn:n=(X.length:Int)) :
  ZC (P++X++Q++Y++S) p1 p2 n=some (P++Y++Q++X++S):=by
 simp only [List.length_append] at hL h2
 refine Za2 ?_
 unfold ZC
 refine Zan (fun a=>∃ X1 X2 Y1 Y2:List Memb,X=X1++X2∧Y=Y1++Y2∧X1.length=Y1.length∧a.1=(X1.length:Int)∧a.2=P++Y1++X2++Q++X1++Y2++S) (fun a=>X.length - a.1.toNat) ⟨[],X,[],Y,rfl,rfl,rfl,rfl,by simp⟩ (by dsimp only;omega) ?_
 rintro ⟨i,l⟩ rec ⟨X1,X2,Y1,Y2,hX,hY,hxy,hi,hl⟩ ih
 dsimp only at hi hl ih ⊢
 have lX:X.length=X1.length+X2.length:=by rw [hX,List.length_append]
 have lY:Y.length=Y1.length+Y2.length:=by rw [hY,List.length_append]
 refine Zj (fun hlt=>?_) (fun hge=>?_)
 ·obtain ⟨x,X2,rfl⟩:∃ x X',X2=x::X':=by
   cases X2 with
   | nil=>simp at lX;omega
   | cons x X'=>exact ⟨x,X',rfl⟩
  obtain ⟨y,Y2,rfl⟩:∃ y Y',Y2=y::Y':=by
   cases Y2 with
   | nil=>simp at lY lX;omega
   | cons y Y'=>exact ⟨y,Y',rfl⟩
  simp only [List.length_cons] at lX lY
  have e1:w64 (p1+i)=p1+i:=ZeO (by omega) (by omega) (by omega) (by omega)
  have e2:w64 (p2+i)=p2+i:=ZeO (by omega) (by omega) (by omega) (by omega)
  have d1:l=(P++Y1)++x::(X2++Q++X1++(y::Y2)++S):=by rw [hl];simp
  have d2:l=(P++Y1++(x::X2)++Q++X1)++y::(Y2++S):=by rw [hl];simp
  have n1:p1+i=((P++Y1).length:Int):=by simp only [List.length_append];omega
  have n2:p2+i=((P++Y1++(x::X2)++Q++X1).length:Int):=by simp only [List.length_append,List.length_cons];omega
  have d3:ZeX l (p1+i) y=(P++Y1++(y::X2)++Q++X1)++y::(Y2++S):=by rw [Ze4 d1 n1];simp
  have n3:p2+i=((P++Y1++(y::X2)++Q++X1).length:Int):=by rw [n2];simp
  rw [e1,e2,ZeO (by omega) (by omega) (by omega) (by omega)]
  refine Zb (Zbu d2 n2) (Zb (Zbu d1 n1) (Zb (Zbu d1 n1) (Zb (Zbu d3 n3) ?_)))
  refine ih _ ⟨X1 ++ [x],X2,Y1 ++ [y],Y2,by simp [hX],by simp [hY],by simp [hxy],by simp;omega,?_⟩ (by dsimp only;omega)
  dsimp only
  rw [Ze4 d3 n3]
  simp
 ·have z1:X2 = []:=List.eq_nil_of_length_eq_zero (by omega)
  have z2:Y2 = []:=List.eq_nil_of_length_eq_zero (by omega)
  subst z1 z2
  refine Zd ?_
  rw [hl,hX,hY]
  simp
theorem Zr7 (P U V S:List Memb) (hU:0<U.length) (hV:0<V.length) (hL:(P++U++V++S).length≤1000000) (a m b:Int) (ha:a=(P.length:Int)) (hm:m=((P++U).length:Int)) (hb:b=((P++U++V).length:Int)) :
  ZM (P++U++V++S) a m b=some (P++V++U++S):=by
 simp only [List.length_append] at hL hm hb
 refine Za2 ?_
 unfold ZM
 have e1:w64 (m - a)=(U.length:Int):=by rw [Zey (by omega) (by omega) (by omega) (by omega)];omega
 have e2:w64 (b - m)=(V.length:Int):=by rw [Zey (by omega) (by omega) (by omega) (by omega)];omega
 rw [e1,e2]
 refine Zan (fun x=>∃ A U1 V1 B:List Memb,0<U1.length∧0<V1.length∧x.1=(U1.length:Int)∧x.2.1=(V1.length:Int)∧x.2.2=P++A++U1++V1++B++S∧A++V1++U1++B=V++U∧P.length+A.length+U1.length=P.length+U.length) (fun x=>x.1.toNat+x.2.1.toNat)
  ⟨[],U,V,[],hU,hV,rfl,rfl,by simp,by simp,by simp⟩ (by dsimp only;omega) ?_
 rintro ⟨i,j,l⟩ rec ⟨A,U1,V1,B,hU1,hV1,hi,hj,hl,hfin,hpos⟩ ih
 dsimp only at hi hj hl ih ⊢
 have htot:A.length+V1.length+U1.length+B.length=V.length+U.length:=by
  have:=congrArg List.length hfin
  simpa only [List.length_append] using this
 have e3:w64 (m - i)=m - i:=Zey (by omega) (by omega) (by omega) (by omega)
 refine ZdY (fun hne=>?_) (fun heq=>?_)
 ·refine Zj (fun hlt=>?_) (fun hge=>?_)
  ·
   have s1:U1=U1.take V1.length++U1.drop V1.length:=(List.take_append_drop _ _).symm
   have l1:(U1.take V1.length).length=V1.length:=by rw [List.length_take];omega
   have l2:(U1.drop V1.length).length=U1.length - V1.length:=List.length_drop
   generalize hUa:U1.take V1.length=Ua at s1 l1
   generalize hUb:U1.drop V1.length=Ub at s1 l2
   have hd:l=(P++A)++Ua++Ub++V1++(B++S):=by rw [hl,s1];simp
   have hsw:=Zql (P++A) Ua Ub V1 (B++S) l1 (by simp only [List.length_append];omega) (m - i) m j (by simp only [List.length_append];omega) (by simp only [List.length_append];omega) (by omega)
   rw [e3,Zey (by omega) (by omega) (by omega) (by omega),hd]
   refine Zb hsw ?_
   refine ih _ ⟨A++V1,Ub,Ua,B,by omega,by omega,by dsimp only;omega,by dsimp only;omega,?_,?_,?_⟩ (by dsimp only;omega)
   ·dsimp only
    simp
   ·rw [← hfin,s1]
    simp
   ·rw [List.length_append]
    omega
  ·have s1:V1=V1.take (V1.length - U1.length)++V1.drop (V1.length - U1.length):=(List.take_append_drop _ _).symm
   have l1:(V1.take (V1.length - U1.length)).length=V1.length - U1.length:=by rw [List.length_take];omega
   have l2:(V1.drop (V1.length - U1.length)).length=U1.length:=by rw [List.length_drop];omega
   generalize hUa:V1.take (V1.length - U1.length)=Va at s1 l1
   generalize hUb:V1.drop (V1.length - U1.length)=Vb at s1 l2
   have hd:l=(P++A)++U1++Va++Vb++(B++S):=by rw [hl,s1];simp
   have e4:w64 (w64 (m+j) - i)=m+j - i:=by rw [ZeO (by omega) (by omega) (by omega) (by omega),Zey (by omega) (by omega) (by omega) (by omega)]
   have hsw:=Zql (P++A) U1 Va Vb (B++S) (by omega) (by simp only [List.length_append];omega) (m - i) (m+j - i) i (by simp only [List.length_append];omega) (by simp only [List.length_append];omega) (by omega)
   rw [e3,e4,Zey (by omega) (by omega) (by omega) (by omega),hd]
   refine Zb hsw ?_
   refine ih _ ⟨A,Vb,Va,U1++B,by omega,by omega,by dsimp only;omega,by dsimp only;omega,?_,?_,?_⟩ (by dsimp only;omega)
   ·dsimp only
    simp
   ·rw [← hfin,s1]
    simp
   ·omega
 ·have hd:l=(P++A)++U1 ++ []++V1++(B++S):=by rw [hl];simp
  have hsw:=Zql (P++A) U1 [] V1 (B++S) (by omega) (by simp only [List.length_append,List.length_nil];omega) (m - i) m i (by simp only [List.length_append];omega) (by simp only [List.length_append,List.length_nil];omega) (by omega)
  rw [e3,hd]
  refine Zb hsw (Zd ?_)
  have:(P++A)++V1 ++ []++U1++(B++S)=P++(A++V1++U1++B)++S:=by simp
  rw [this,hfin]
  simp
end Go.Proofs.YtmgfammllddkhaaGreatDoor
namespace Go.Proofs.YtmgfammllddkhaaGreatDoor
open VL
open Go.Sort
def Zd8 (a b:Memb):Int:=Title.cmp a.category b.category
theorem Zqm:SWO (ltOf Zd8) where
 irrefl x:=titleCmp_laws.swo.irrefl x.category
 trans x y z:=titleCmp_laws.swo.trans x.category y.category z.category
 ntrans x y z:=titleCmp_laws.swo.ntrans x.category y.category z.category
def leM:Memb→Memb→Bool:=leC Zd8
theorem Zbo:∀ a b c,leM a b=true→leM b c=true→leM a c=true:=Zi2 Zqm
theorem ZfD:∀ a b,(leM a b||leM b a)=true:=Zi3 Zqm
theorem Zr8 (a b:Int):cmp_Compare_int a b=some (Lib.compareInt a b):=by
 refine Za2 ?_
 unfold cmp_Compare_int ZcC Lib.compareInt
 refine Zb rfl (Zb rfl ?_)
 rw [decide_eq_true (rfl:a=a),decide_eq_true (rfl:b=b)]
 refine ZZ (fun h=>by cases h) fun _=>ZZ (fun h=>by cases h) fun _=>?_
 refine Zj (fun h=>?_) fun h=>?_
 ·rw [if_pos h];exact Zd rfl
 ·rw [if_neg h]
  refine Zj (fun h2=>?_) fun h2=>?_
  ·rw [if_pos h2];exact Zd rfl
  ·rw [if_neg h2];exact Zd rfl
theorem Zvt (a b:Int):ZdO [a,b]=some (orI [a,b]):=by
 rw [Zlb]
 unfold ZpG
 refine Za2 ?_
 unfold ZdO
 refine Zdf (n:=4611686018427387903) rfl (Zj (fun _=>?_) fun h=>absurd (show (0:Int)<2 by decide) h)
 refine Zb (v:=a) rfl (ZdY (fun h=>?_) fun h=>?_)
 ·rw [if_neg h];exact Zd rfl
 ·rw [if_pos h]
  refine Zdf (n:=4611686018427387902) rfl (Zj (fun _=>?_) fun h=>absurd (show (1:Int)<2 by decide) h)
  refine Zb (v:=b) rfl (ZdY (fun h=>Zd rfl) fun h=>?_)
  rw [h]
  exact Zdf (n:=4611686018427387901) rfl (Zj (fun h=>absurd h (show ¬ (2:Int)<2 by decide)) fun _=>Zd rfl)
theorem ZjK (a b:Title):ZcD a b=some (Title.cmp a b):=by
 unfold ZcD strings_Compare
 rw [Zr8]
 show (ZdO [Lib.compareInt a.space b.space,Lib.compareBytes a.name.data.toList b.name.data.toList]).bind _=_
 rw [Zvt]
 rfl
theorem ZnI (a b:Memb):Zb0 a b=some (Zd8 a b):=by
 unfold Zb0
 rw [ZjK]
 rfl
theorem Zik {x y:Memb} (h:¬ Zd8 x y<0):leM y x=true:=by
 unfold leM leC ltOf
 rw [decide_eq_false h]
 rfl
theorem ZkZ {x y:Memb} (h:Zd8 x y<0):leM y x=false:=by
 unfold leM leC ltOf
 rw [decide_eq_true h]
 rfl
theorem ZtH {l:List Memb} {z y:Memb} (h:(l ++ [z]).Pairwise (fun a b=>leM a b=true)) (hz:leM z y=true):∀ u ∈ l ++ [z],leM u y=true:=fun u hu=>by
 rcases List.mem_append.1 hu with hu | hu
 ·exact Zbo _ _ _ ((List.pairwise_append.1 h).2.2 u hu z (by simp)) hz
 ·rw [List.mem_singleton.1 hu]
  exact hz
theorem ZuF (P U S:List Memb) (hL:(P++U++S).length≤1000000) (a b:Int) (ha:a=(P.length:Int)) (hb:b=((P++U).length:Int)) :
  ZD (P++U++S) a b=some (P++Zak leM U++S):=by
 simp only [List.length_append] at hL hb
 refine Za2 ?_
 unfold ZD
 have e0:w64 (a+1)=a+1:=ZeO (by omega) (by omega) (by omega) (by omega)
 rw [e0]
 cases U with
 | nil=>
   simp only [List.length_nil] at hb
   refine Zdf (n:=4611686018427387903) rfl (Zj (fun h=>by omega) fun _=>Zd rfl)
 | cons u U=>
   simp only [List.length_cons] at hL hb
   refine Zan (fun x=>∃ U1 U2:List Memb,u::U=U1++U2∧0<U1.length∧x.1=(P.length:Int)+(U1.length:Int)∧x.2=P++Zak leM U1++U2++S) (fun x=>(u::U).length+P.length - x.1.toNat) ⟨[u],U,rfl,by simp,by simp [ha],by simp [Zak,Zh5]⟩ (by dsimp only;simp only [List.length_cons];omega) ?_
   rintro ⟨i,l⟩ rec ⟨U1,U2,hU,hU1,hi,hl⟩ ih
   dsimp only at hi hl ih ⊢
   have lU:U.length+1=U1.length+U2.length:=by have:=congrArg List.length hU;simpa only [List.length_cons,List.length_append] using this
   have lI:(Zak leM U1).length=U1.length:=Zaa U1
   refine Zj (fun hlt=>?_) (fun hge=>?_)
   ·obtain ⟨y,U2,rfl⟩:∃ y U',U2=y::U':=by
     cases U2 with
     | nil=>simp only [List.length_nil] at lU;omega
     | cons y U'=>exact ⟨y,U',rfl⟩
    simp only [List.length_cons] at lU
    have hsorted:=ZeK Zbo ZfD U1
    refine Zan (fun x=>∃ A B:List Memb,Zak leM U1=A++B∧(∀ v ∈ B,leM v y=false)∧x.1=(P.length:Int)+(A.length:Int)∧x.2=P++A++y::B++U2++S) (fun x=>x.1.toNat) ⟨Zak leM U1,[],by simp,by simp,by rw [lI];exact hi,by rw [hl];simp⟩ (by dsimp only;omega) ?_
    rintro ⟨j,l2⟩ rec2 ⟨A,B,hAB,hB,hj,hl2⟩ ih2
    dsimp only at hj hl2 ih2 ⊢
    have lAB:A.length+B.length=U1.length:=by have:=congrArg List.length hAB;rw [lI,List.length_append] at this;exact this.symm
    have fin:(∀ v ∈ A,leM v y=true)→Tot (rec (w64 (i+1),l2)) (fun r=>r=P++Zak leM (u::U)++S):=fun hA=>by
     rw [ZeO (by omega) (by omega) (by omega) (by omega)]
     refine ih _ ⟨U1 ++ [y],U2,by rw [hU];simp,by simp,by simp;omega,?_⟩ (by dsimp only;simp only [List.length_cons];omega)
     dsimp only
     rw [ZnY Zbo ZfD,hAB,Ziw hA hB,hl2]
     simp
    refine Zap (fun q=>((∀ v ∈ A,leM v y=true)→Tot (q false) (fun r=>r=P++Zak leM (u::U)++S))∧(∀ A' z,A=A' ++ [z]→leM z y=false→Tot (q true) (fun r=>r=P++Zak leM (u::U)++S))) ⟨fun hA=>?_,fun A' z hAz hz=>?_⟩ fun q hq=>?_
    ·exact ZZ (fun h=>by cases h) fun _=>fin hA
    ·refine ZZ (fun _=>?_) fun h=>by cases h
     subst hAz
     simp only [List.length_append,List.length_singleton] at hj lAB
     have e1:w64 (j - 1)=j - 1:=Zey (by omega) (by omega) (by omega) (by omega)
     have d1:l2=(P++A')++z::(y::B++U2++S):=by rw [hl2];simp
     have d2:l2=(P++A' ++ [z])++y::(B++U2++S):=by rw [hl2];simp
     have n1:j - 1=((P++A').length:Int):=by simp only [List.length_append];omega
     have n2:j=((P++A' ++ [z]).length:Int):=by simp only [List.length_append,List.length_singleton];omega
     have d3:ZeX l2 j z=(P++A')++z::(z::(B++U2++S)):=by rw [Ze4 d2 n2];simp
     rw [e1]
     refine Zb (Zbu d1 n1) (Zb (Zbu d2 n2) (Zb (Zbu d2 n2) (Zb (Zbu d3 n1) ?_)))
     refine ih2 _ ⟨A',z::B,by rw [hAB];simp,fun v hv=>?_,by dsimp only;omega,?_⟩ (by dsimp only;omega)
     ·rcases List.mem_cons.1 hv with rfl | hv
      ·exact hz
      ·exact hB v hv
     ·dsimp only
      rw [Ze4 d3 n1]
      simp
    ·refine Zj (fun hgt=>?_) (fun hle=>?_)
     ·have hA0:A≠[]:=fun h=>by rw [h] at hj;simp only [List.length_nil] at hj;omega
      obtain ⟨A',z,hAz⟩:∃ A' z,A=A' ++ [z]:=⟨A.dropLast,A.getLast hA0,(List.dropLast_concat_getLast hA0).symm⟩
      have lA:A.length=A'.length+1:=by rw [hAz];simp
      have e1:w64 (j - 1)=j - 1:=Zey (by omega) (by omega) (by omega) (by omega)
      have d1:l2=(P++A')++z::(y::B++U2++S):=by rw [hl2,hAz];simp
      have d2:l2=(P++A' ++ [z])++y::(B++U2++S):=by rw [hl2,hAz];simp
      have n1:j - 1=((P++A').length:Int):=by simp only [List.length_append];omega
      have n2:j=((P++A' ++ [z]).length:Int):=by simp only [List.length_append,List.length_singleton];omega
      rw [e1]
      refine Zb (Zbu d2 n2) (Zb (Zbu d1 n1) (Zb (ZnI y z) ?_))
      by_cases hc:Zd8 y z<0
      ·rw [decide_eq_true hc]
       exact hq.2 A' z hAz (ZkZ hc)
      ·rw [decide_eq_false hc]
       refine hq.1 ?_
       rw [hAB,hAz] at hsorted
       rw [hAz]
       exact ZtH (List.pairwise_append.1 hsorted).1 (Zik hc)
     ·refine hq.1 fun v hv=>?_
      have:A = []:=List.eq_nil_of_length_eq_zero (by omega)
      rw [this] at hv
      cases hv
   ·have z:U2 = []:=List.eq_nil_of_length_eq_zero (by omega)
    subst z
    rw [List.append_nil] at hU
    refine Zd ?_
    rw [hl,hU,List.append_nil]
theorem ZsG {α:Type} {l:List α} {n:Nat} (h:n<l.length):∃ A x B,l=A++x::B∧A.length=n:=⟨l.take n,l[n],l.drop (n+1),by rw [← List.drop_eq_getElem_cons h,List.take_append_drop],by rw [List.length_take];omega⟩
theorem Znx {β:Type} {s:Int} {f:Int→Option β} {R:β→Prop} (h0:0≤s) (h1:s≤10000000) (k:∀ q:Int,q=s / 2→IntKind.wrap .i64 q=q→Tot (f q) R):Tot ((Zsa .u64 (IntKind.wrap .u64 s) 1).bind f) R:=by
 have e:IntKind.wrap .u64 s=s:=by
  rw [IntKind.wrap_u64]
  omega
 rw [e]
 refine Zrz (by decide) (k _ ?_ ?_)
 ·show s.fdiv 2=s / 2
  exact Int.fdiv_eq_ediv_of_nonneg _ (by decide)
 ·show IntKind.wrap .i64 (s.fdiv 2)=s.fdiv 2
  rw [Int.fdiv_eq_ediv_of_nonneg _ (by decide),IntKind.wrap_i64]
  omega
abbrev Srt (l:List Memb):Prop:=l.Pairwise fun a b=>leM a b=true
theorem ZpN {A B:List Memb} {z:Memb} (h:Srt (A++z::B)):(∀ v ∈ A,leM v z=true)∧∀ v ∈ B,leM z v=true:=by
 have h1:=List.pairwise_append.1 h
 exact ⟨fun v hv=>h1.2.2 v hv z (by simp),fun v hv=>(List.pairwise_cons.1 h1.2.1).1 v hv⟩
theorem ZrI (f:Nat) (P V S:List Memb) (x:Memb) (hV:Srt V) (hL:(P ++ [x]++V++S).length≤1000000) (a m b:Int) (ha:a=(P.length:Int)) (hm:m=((P ++ [x]).length:Int)) (hb:b=((P ++ [x]++V).length:Int)) :
  Zl (f+1) (P ++ [x]++V++S) a m b=some (P++Zad leM [x] V++S):=by
 simp only [List.length_append,List.length_singleton] at hL hm hb
 refine Za2 ?_
 unfold Zl
 rw [show w64 (m - a)=1 by rw [Zey (by omega) (by omega) (by omega) (by omega)];omega]
 refine Zj (fun _=>?_) fun h=>absurd rfl h
 refine Zan (fun q=>∃ C1 C C2:List Memb,V=C1++C++C2∧q.1=m+(C1.length:Int)∧q.2=m+(C1.length:Int)+(C.length:Int)∧(∀ v ∈ C1,leM x v=false)∧∀ v ∈ C2,leM x v=true) (fun q=>(q.2 - q.1).toNat) ⟨[],V,[],by simp,by simp,by simp;omega,by simp,by simp⟩ (by dsimp only;omega) ?_
 rintro ⟨i,j⟩ rec ⟨C1,C,C2,hC,hi,hj,h1,h2⟩ ih
 dsimp only at hi hj ih ⊢
 have lC:V.length=C1.length+C.length+C2.length:=by rw [hC];simp only [List.length_append]
 refine Zj (fun hlt=>?_) (fun hge=>?_)
 ·rw [ZeO (by omega) (by omega) (by omega) (by omega)]
  refine Znx (by omega) (by omega) fun q hq hw=>?_
  rw [hw]
  obtain ⟨M1,z,M2,hM,lM⟩:=ZsG (l:=C) (n:=(q - i).toNat) (by omega)
  have lM2:C.length=M1.length+1+M2.length:=by rw [hM];simp only [List.length_append,List.length_cons];omega
  have hz:V=(C1++M1)++z::(M2++C2):=by rw [hC,hM];simp
  rw [hz] at hV
  obtain ⟨s1,s2⟩:=ZpN hV
  have d1:P ++ [x]++V++S=(P ++ [x]++C1++M1)++z::(M2++C2++S):=by rw [hz];simp
  have d2:P ++ [x]++V++S=P++x::(V++S):=by simp
  refine Zb (Zbu d1 (by simp only [List.length_append,List.length_singleton];omega)) (Zb (Zbu d2 ha) (Zb (ZnI z x) ?_))
  refine Zj (fun hc=>?_) (fun hc=>?_)
  ·rw [ZeO (by omega) (by omega) (by omega) (by omega)]
   refine ih _ ⟨C1++M1 ++ [z],M2,C2,by rw [hz];simp,by dsimp only;simp only [List.length_append,List.length_singleton];omega,by dsimp only;simp only [List.length_append,List.length_singleton];omega,fun v hv=>?_,h2⟩ (by dsimp only;omega)
   have hxz:=ZkZ hc
   rcases List.mem_append.1 hv with hv | hv
   ·cases h:leM x v with
    | false=>rfl
    | true=>rw [Zbo _ _ _ h (s1 v hv)] at hxz;cases hxz
   ·rw [List.mem_singleton.1 hv];exact hxz
  ·refine ih _ ⟨C1,M1,z::M2++C2,by rw [hz];simp,by dsimp only;omega,by dsimp only;omega,h1,fun v hv=>?_⟩ (by dsimp only;omega)
   have hxz:=Zik hc
   rcases List.mem_cons.1 (show v ∈ z::(M2++C2) from hv) with rfl | hv
   ·exact hxz
   ·exact Zbo _ _ _ hxz (s2 v hv)
 ·have z:C = []:=List.eq_nil_of_length_eq_zero (by omega)
  subst z
  rw [List.append_nil] at hC
  simp only [List.length_nil] at hj lC
  have hres:Zad leM [x] V=C1++x::C2:=by rw [hC];exact Zmx h2 h1
  rw [Zey (by omega) (by omega) (by omega) (by omega)]
  refine Zan (fun q=>∃ D1 D2:List Memb,C1=D1++D2∧q.1=a+(D1.length:Int)∧q.2=P++D1++x::D2++C2++S) (fun q=>(i - q.1).toNat) ⟨[],C1,rfl,by simp,by simp [hC]⟩ (by dsimp only;omega) ?_
  rintro ⟨k,l⟩ rec2 ⟨D1,D2,hD,hk,hl⟩ ih2
  dsimp only at hk hl ih2 ⊢
  have lD:C1.length=D1.length+D2.length:=by rw [hD];simp only [List.length_append]
  refine Zj (fun hlt=>?_) (fun hge=>?_)
  ·obtain ⟨y,D2,rfl⟩:∃ y D',D2=y::D':=by
    cases D2 with
    | nil=>simp only [List.length_nil] at lD;omega
    | cons y D'=>exact ⟨y,D',rfl⟩
   simp only [List.length_cons] at lD
   have d1:l=(P++D1)++x::(y::D2++C2++S):=by rw [hl];simp
   have d2:l=(P++D1 ++ [x])++y::(D2++C2++S):=by rw [hl];simp
   have n1:k=((P++D1).length:Int):=by simp only [List.length_append];omega
   have n2:k+1=((P++D1 ++ [x]).length:Int):=by simp only [List.length_append,List.length_singleton];omega
   have d3:ZeX l k y=(P++D1 ++ [y])++y::(D2++C2++S):=by rw [Ze4 d1 n1];simp
   have n3:k+1=((P++D1 ++ [y]).length:Int):=by rw [n2];simp
   rw [ZeO (by omega) (by omega) (by omega) (by omega)]
   refine Zb (Zbu d2 n2) (Zb (Zbu d1 n1) (Zb (Zbu d1 n1) (Zb (Zbu d3 n3) ?_)))
   refine ih2 _ ⟨D1 ++ [y],D2,by rw [hD];simp,by dsimp only;simp only [List.length_append,List.length_singleton];omega,?_⟩ (by dsimp only;omega)
   dsimp only
   rw [Ze4 d3 n3]
   simp
  ·have z2:D2 = []:=List.eq_nil_of_length_eq_zero (by omega)
   subst z2
   refine Zd ?_
   rw [hl,hres,hD]
   simp
theorem ZpO (f:Nat) (P U S:List Memb) (y:Memb) (hU:Srt U) (hU1:¬ U.length=1) (hL:(P++U ++ [y]++S).length≤1000000) (a m b:Int) (ha:a=(P.length:Int)) (hm:m=((P++U).length:Int)) (hb:b=((P++U ++ [y]).length:Int)) :
  Zl (f+1) (P++U ++ [y]++S) a m b=some (P++Zad leM U [y]++S):=by
 simp only [List.length_append,List.length_singleton] at hL hm hb
 refine Za2 ?_
 unfold Zl
 rw [show w64 (m - a)=(U.length:Int) by rw [Zey (by omega) (by omega) (by omega) (by omega)];omega,show w64 (b - m)=1 by rw [Zey (by omega) (by omega) (by omega) (by omega)];omega]
 refine Zj (fun h=>absurd h (by omega)) fun _=>?_
 refine Zj (fun _=>?_) fun h=>absurd rfl h
 refine Zan (fun q=>∃ C1 C C2:List Memb,U=C1++C++C2∧q.1=a+(C1.length:Int)∧q.2=a+(C1.length:Int)+(C.length:Int)∧(∀ v ∈ C1,leM v y=true)∧∀ v ∈ C2,leM v y=false) (fun q=>(q.2 - q.1).toNat) ⟨[],U,[],by simp,by simp,by simp;omega,by simp,by simp⟩ (by dsimp only;omega) ?_
 rintro ⟨i,j⟩ rec ⟨C1,C,C2,hC,hi,hj,h1,h2⟩ ih
 dsimp only at hi hj ih ⊢
 have lC:U.length=C1.length+C.length+C2.length:=by rw [hC];simp only [List.length_append]
 refine Zj (fun hlt=>?_) (fun hge=>?_)
 ·rw [ZeO (by omega) (by omega) (by omega) (by omega)]
  refine Znx (by omega) (by omega) fun q hq hw=>?_
  rw [hw]
  obtain ⟨M1,z,M2,hM,lM⟩:=ZsG (l:=C) (n:=(q - i).toNat) (by omega)
  have lM2:C.length=M1.length+1+M2.length:=by rw [hM];simp only [List.length_append,List.length_cons];omega
  have hz:U=(C1++M1)++z::(M2++C2):=by rw [hC,hM];simp
  rw [hz] at hU
  obtain ⟨s1,s2⟩:=ZpN hU
  have d1:P++U ++ [y]++S=(P++C1++M1)++z::(M2++C2 ++ [y]++S):=by rw [hz];simp
  have d2:P++U ++ [y]++S=(P++U)++y::S:=by simp
  refine Zb (Zbu d2 (by simp only [List.length_append];omega)) (Zb (Zbu d1 (by simp only [List.length_append];omega)) (Zb (ZnI y z) ?_))
  by_cases hc:Zd8 y z<0
  ·rw [decide_eq_true hc]
   refine ZZ (fun h=>by cases h) fun _=>?_
   refine ih _ ⟨C1,M1,z::M2++C2,by rw [hz];simp,by dsimp only;omega,by dsimp only;omega,h1,fun v hv=>?_⟩ (by dsimp only;omega)
   have hxz:=ZkZ hc
   rcases List.mem_cons.1 (show v ∈ z::(M2++C2) from hv) with rfl | hv
   ·exact hxz
   ·cases h:leM v y with
    | false=>rfl
    | true=>rw [Zbo _ _ _ (s2 v hv) h] at hxz;cases hxz
  ·rw [decide_eq_false hc]
   refine ZZ (fun _=>?_) fun h=>by cases h
   rw [ZeO (by omega) (by omega) (by omega) (by omega)]
   refine ih _ ⟨C1++M1 ++ [z],M2,C2,by rw [hz];simp,by dsimp only;simp only [List.length_append,List.length_singleton];omega,by dsimp only;simp only [List.length_append,List.length_singleton];omega,fun v hv=>?_,h2⟩ (by dsimp only;omega)
   have hxz:=Zik hc
   rcases List.mem_append.1 hv with hv | hv
   ·exact Zbo _ _ _ (s1 v hv) hxz
   ·rw [List.mem_singleton.1 hv];exact hxz
 ·have z:C = []:=List.eq_nil_of_length_eq_zero (by omega)
  subst z
  rw [List.append_nil] at hC
  simp only [List.length_nil] at hj lC
  have hres:Zad leM U [y]=C1++y::C2:=by rw [hC];exact Ziw h1 h2
  refine Zan (fun q=>∃ D1 D2:List Memb,C2=D1++D2∧q.1=a+(C1.length:Int)+(D1.length:Int)∧q.2=P++C1++D1++y::D2++S) (fun q=>q.1.toNat) ⟨C2,[],by simp,by dsimp only;omega,by simp [hC]⟩ (by dsimp only;omega) ?_
  rintro ⟨k,l⟩ rec2 ⟨D1,D2,hD,hk,hl⟩ ih2
  dsimp only at hk hl ih2 ⊢
  have lD:C2.length=D1.length+D2.length:=by rw [hD];simp only [List.length_append]
  refine Zj (fun hlt=>?_) (fun hge=>?_)
  ·have hD0:D1≠[]:=fun h=>by rw [h] at hk;simp only [List.length_nil] at hk;omega
   obtain ⟨D',x,hDx⟩:∃ A' z,D1=A' ++ [z]:=⟨D1.dropLast,D1.getLast hD0,(List.dropLast_concat_getLast hD0).symm⟩
   have lA:D1.length=D'.length+1:=by rw [hDx];simp
   have d1:l=(P++C1++D')++x::(y::D2++S):=by rw [hl,hDx];simp
   have d2:l=(P++C1++D' ++ [x])++y::(D2++S):=by rw [hl,hDx];simp
   have n1:k - 1=((P++C1++D').length:Int):=by simp only [List.length_append];omega
   have n2:k=((P++C1++D' ++ [x]).length:Int):=by simp only [List.length_append,List.length_singleton];omega
   have d3:ZeX l k x=(P++C1++D')++x::(x::(D2++S)):=by rw [Ze4 d2 n2];simp
   rw [Zey (by omega) (by omega) (by omega) (by omega)]
   refine Zb (Zbu d1 n1) (Zb (Zbu d2 n2) (Zb (Zbu d2 n2) (Zb (Zbu d3 n1) ?_)))
   refine ih2 _ ⟨D',x::D2,by rw [hD,hDx];simp,by dsimp only;omega,?_⟩ (by dsimp only;omega)
   dsimp only
   rw [Ze4 d3 n1]
   simp
  ·have z2:D1 = []:=List.eq_nil_of_length_eq_zero (by omega)
   subst z2
   refine Zd ?_
   rw [hl,hres,hD]
   simp
theorem ZhD {A B:List Memb} (h:Srt (A++B)):Srt A∧Srt B:=⟨(List.pairwise_append.1 h).1,(List.pairwise_append.1 h).2.1⟩
structure Part (U V A B C D:List Memb):Prop where
 u:U=A++B
 v:V=C++D
 l:∀ u ∈ A,∀ v ∈ D,leM u v=true
 r:∀ v ∈ C,∀ u ∈ B,leM u v=false
theorem ZtS {U V:List Memb} (hU:Srt U) (hV:Srt V) (i k:Nat) (hi:i≤U.length) (hk:k≤V.length) (h1:i=0∨k=V.length∨∃ u v,U[i - 1]? = some u∧V[k]? = some v∧leM u v=true) (h2:i=U.length∨k=0∨∃ u v,U[i]? = some u∧V[k - 1]? = some v∧leM u v=false) :
  Part U V (U.take i) (U.drop i) (V.take k) (V.drop k):=by
 refine ⟨(List.take_append_drop _ _).symm,(List.take_append_drop _ _).symm,fun u hu v hv=>?_,fun v hv u hu=>?_⟩
 ·rcases h1 with rfl | rfl | ⟨x,y,hx,hy,hxy⟩
  ·simp at hu
  ·simp at hv
  ·have e1:U.take i=U.take (i - 1) ++ [x]:=by
    have hlt:=(List.getElem?_eq_some_iff.1 hx).1
    cases i with
    | zero=>simp at hu
    | succ i=>
      rw [List.take_add_one]
      simp only [Nat.add_sub_cancel] at hx ⊢
      rw [hx]
      rfl
   have e2:V.drop k=y::V.drop (k+1):=by
    obtain ⟨hlt,he⟩:=List.getElem?_eq_some_iff.1 hy
    rw [List.drop_eq_getElem_cons hlt,he]
   have a1:leM u x=true∨u=x:=by
    rw [e1] at hu
    rcases List.mem_append.1 hu with hu | hu
    ·have s:=(ZhD (A:=U.take i) (B:=U.drop i) (by rw [List.take_append_drop];exact hU)).1
     rw [e1] at s
     exact .inl ((List.pairwise_append.1 s).2.2 u hu x (by simp))
    ·exact .inr (List.mem_singleton.1 hu)
   have a2:leM y v=true∨v=y:=by
    rw [e2] at hv
    rcases List.mem_cons.1 hv with hv | hv
    ·exact .inr hv
    ·have s:=(ZhD (A:=V.take k) (B:=V.drop k) (by rw [List.take_append_drop];exact hV)).2
     rw [e2] at s
     exact .inl ((List.pairwise_cons.1 s).1 v hv)
   have a3:leM u y=true:=by
    rcases a1 with a1 | rfl
    ·exact Zbo _ _ _ a1 hxy
    ·exact hxy
   rcases a2 with a2 | rfl
   ·exact Zbo _ _ _ a3 a2
   ·exact a3
 ·rcases h2 with rfl | rfl | ⟨x,y,hx,hy,hxy⟩
  ·simp at hu
  ·simp at hv
  ·have e1:U.drop i=x::U.drop (i+1):=by
    obtain ⟨hlt,he⟩:=List.getElem?_eq_some_iff.1 hx
    rw [List.drop_eq_getElem_cons hlt,he]
   have e2:V.take k=V.take (k - 1) ++ [y]:=by
    cases k with
    | zero=>simp at hv
    | succ k=>
      rw [List.take_add_one]
      simp only [Nat.add_sub_cancel] at hy ⊢
      rw [hy]
      rfl
   have a1:leM x u=true∨u=x:=by
    rw [e1] at hu
    rcases List.mem_cons.1 hu with hu | hu
    ·exact .inr hu
    ·have s:=(ZhD (A:=U.take i) (B:=U.drop i) (by rw [List.take_append_drop];exact hU)).2
     rw [e1] at s
     exact .inl ((List.pairwise_cons.1 s).1 u hu)
   have a2:leM v y=true∨v=y:=by
    rw [e2] at hv
    rcases List.mem_append.1 hv with hv | hv
    ·have s:=(ZhD (A:=V.take k) (B:=V.drop k) (by rw [List.take_append_drop];exact hV)).1
     rw [e2] at s
     exact .inl ((List.pairwise_append.1 s).2.2 v hv y (by simp))
    ·exact .inr (List.mem_singleton.1 hv)
   cases h:leM u v with
   | false=>rfl
   | true=>
     exfalso
     have b1:leM x v=true:=by
      rcases a1 with a1 | rfl
      ·exact Zbo _ _ _ a1 h
      ·exact h
     have b2:leM x y=true:=by
      rcases a2 with a2 | rfl
      ·exact Zbo _ _ _ b1 a2
      ·exact b1
     rw [hxy] at b2
     cases b2
theorem Zvi {P U V S:List Memb} {i:Nat} {u:Memb} (h:U[i]? = some u):∃ A B,P++U++V++S=A++u::B∧A.length=P.length+i:=by
 obtain ⟨hl,he⟩:=List.getElem?_eq_some_iff.1 h
 refine ⟨P++U.take i,U.drop (i+1)++V++S,?_,by rw [List.length_append,List.length_take];omega⟩
 have:U=U.take i++u::U.drop (i+1):=by rw [← he,← List.drop_eq_getElem_cons hl,List.take_append_drop]
 conv=>lhs;rw [this]
 simp
theorem Zvj {P U V S:List Memb} {i:Nat} {v:Memb} (h:V[i]? = some v):∃ A B,P++U++V++S=A++v::B∧A.length=P.length+U.length+i:=by
 obtain ⟨hl,he⟩:=List.getElem?_eq_some_iff.1 h
 refine ⟨P++U++V.take i,V.drop (i+1)++S,?_,by rw [List.length_append,List.length_append,List.length_take];omega⟩
 have:V=V.take i++v::V.drop (i+1):=by rw [← he,← List.drop_eq_getElem_cons hl,List.take_append_drop]
 conv=>lhs;rw [this]
 simp
theorem Zsm:∀ (f:Nat) (P U V S:List Memb) (_:Srt U) (_:Srt V) (_:0<U.length) (_:0<V.length) (_:(P++U++V++S).length≤1000000) (_:U.length+V.length≤2 ^ f) (a m b:Int) (_:a=(P.length:Int)) (_:m=((P++U).length:Int)) (_:b=((P++U++V).length:Int)),
  Zl f (P++U++V++S) a m b=some (P++Zad leM U V++S)
 | 0,P,U,V,S,_,_,hU0,hV0,_,hf,_,_,_,_,_,_=>by simp at hf;omega
 | f+1,P,U,V,S,hU,hV,hU0,hV0,hL,hf,a,m,b,ha,hm,hb=>by
   by_cases hU1:U.length=1
   ·obtain ⟨x,rfl⟩:=List.length_eq_one_iff.1 hU1
    exact ZrI f P V S x hV hL a m b ha hm hb
   by_cases hV1:V.length=1
   ·obtain ⟨y,rfl⟩:=List.length_eq_one_iff.1 hV1
    exact ZpO f P U S y hU hU1 hL a m b ha hm hb
   simp only [List.length_append] at hL hm hb
   refine Za2 ?_
   unfold Zl
   rw [show w64 (m - a)=(U.length:Int) by rw [Zey (by omega) (by omega) (by omega) (by omega)];omega,show w64 (b - m)=(V.length:Int) by rw [Zey (by omega) (by omega) (by omega) (by omega)];omega]
   refine Zj (fun h=>absurd h (by omega)) fun _=>Zj (fun h=>absurd h (by omega)) fun _=>?_
   rw [ZeO (by omega) (by omega) (by omega) (by omega)]
   refine Znx (by omega) (by omega) fun mid hmid hw=>?_
   rw [hw]
   have en:w64 (mid+m)=mid+m:=ZeO (by omega) (by omega) (by omega) (by omega)
   rw [en]
   have tail:∀ (s:Int) (A B C D:List Memb),Part U V A B C D→s=(P.length:Int)+(A.length:Int)→mid+m - s=(P.length:Int)+(U.length:Int)+(C.length:Int)→Tot (letk (fun (x352:Bool)=>
     letk (fun (x354:List Memb)=>
      letk (fun (x355:Bool)=>
       letk (fun (x357:List Memb)=>
        letk (fun (x358:Bool)=>
         if x358 then
          (Zl f x357 mid (mid+m - s) b).bind fun r359=>
          (some r359:Option (List Memb))
         else
         (some x357:Option (List Memb))) fun k24=>
        if (decide (mid<mid+m - s)) then
         k24 (decide (mid+m - s<b))
        else
        k24 false) fun k23=>
       if x355 then
        (Zl f x354 a s mid).bind fun r360=>
        k23 r360
       else
       k23 x354) fun k22=>
      if (decide (a<s)) then
       k22 (decide (s<mid))
      else
      k22 false) fun k21=>
     if x352 then
      (ZM (P++U++V++S) s m (mid+m - s)).bind fun r361=>
      k21 r361
     else
     k21 (P++U++V++S)) fun k20=>
    if (decide (s<m)) then
     k20 (decide (m<mid+m - s))
    else
    k20 false) fun r=>r=P++Zad leM U V++S:=by
    intro s A B C D hp hs he
    have lU:U.length=A.length+B.length:=by rw [hp.u,List.length_append]
    have lV:V.length=C.length+D.length:=by rw [hp.v,List.length_append]
    have hsU:=ZhD (by rw [← hp.u];exact hU)
    have hsV:=ZhD (by rw [← hp.v];exact hV)
    have pw:(2:Nat) ^ (f+1)=2 * 2 ^ f:=by rw [Nat.pow_succ,Nat.mul_comm]
    have hfin:P++Zad leM U V++S=P++Zad leM A C++Zad leM B D++S:=by
     rw [hp.u,hp.v,Zci A B C D hp.l hp.r]
     simp
    rw [hfin]
    refine Zap (fun q=>∀ t,(t=true→0<B.length∧0<C.length)→(t=false→B = []∨C = [])→Tot (q t) fun r=>r=P++Zad leM A C++Zad leM B D++S) (fun t ht1 ht2=>?_) fun q hq=>?_
    ·
     refine Zap (fun q=>Tot (q (P++A++C++B++D++S)) fun r=>r=P++Zad leM A C++Zad leM B D++S) ?_ fun q hq=>?_
     ·refine Zap (fun q=>∀ t,(t=true→0<A.length∧0<C.length)→(t=false→A = []∨C = [])→Tot (q t) fun r=>r=P++Zad leM A C++Zad leM B D++S) (fun t ht1 ht2=>?_) fun q hq=>?_
      ·
       refine Zap (fun q=>Tot (q (P++Zad leM A C++B++D++S)) fun r=>r=P++Zad leM A C++Zad leM B D++S) ?_ fun q hq=>?_
       ·refine Zap (fun q=>∀ t,(t=true→0<B.length∧0<D.length)→(t=false→B = []∨D = [])→Tot (q t) fun r=>r=P++Zad leM A C++Zad leM B D++S) (fun t ht1 ht2=>?_) fun q hq=>?_
        ·refine ZZ (fun h=>?_) fun h=>?_
         ·obtain ⟨b1,b2⟩:=ht1 h
          have hl:=ZoZ (le:=leM) A C
          refine Zb (Zsm f (P++Zad leM A C) B D S hsU.2 hsV.2 b1 b2 (by simp only [List.length_append];omega) (by omega) mid (mid+m - s) b (by simp only [List.length_append];omega) (by simp only [List.length_append];omega) (by simp only [List.length_append];omega)) (Zd rfl)
         ·refine Zd ?_
          rcases ht2 h with rfl | rfl
          ·show _=P++Zad leM A C++D++S
           simp
          ·rw [ZbM];simp
        ·refine Zj (fun h=>?_) fun h=>?_
         ·by_cases h2:mid+m - s<b
          ·rw [decide_eq_true h2]
           exact hq true (fun _=>by omega) fun h=>by cases h
          ·rw [decide_eq_false h2]
           exact hq false (fun h=>by cases h) fun _=>.inr (List.eq_nil_of_length_eq_zero (by omega))
         ·exact hq false (fun h=>by cases h) fun _=>.inl (List.eq_nil_of_length_eq_zero (by omega))
       ·refine ZZ (fun h=>?_) fun h=>?_
        ·obtain ⟨b1,b2⟩:=ht1 h
         have e:P++A++C++B++D++S=P++A++C++(B++D++S):=by simp
         rw [e]
         refine Zb (Zsm f P A C (B++D++S) hsU.1 hsV.1 b1 b2 (by simp only [List.length_append];omega) (by omega) a s mid ha (by simp only [List.length_append];omega) (by simp only [List.length_append];omega)) ?_
         have e2:P++Zad leM A C++(B++D++S)=P++Zad leM A C++B++D++S:=by simp
         rw [e2]
         exact hq
        ·have e:P++A++C++B++D++S=P++Zad leM A C++B++D++S:=by
          rcases ht2 h with rfl | rfl
          ·show _=P++C++B++D++S
           simp
          ·rw [ZbM];simp
         rw [e]
         exact hq
      ·refine Zj (fun h=>?_) fun h=>?_
       ·by_cases h2:s<mid
        ·rw [decide_eq_true h2]
         exact hq true (fun _=>by omega) fun h=>by cases h
        ·rw [decide_eq_false h2]
         exact hq false (fun h=>by cases h) fun _=>.inr (List.eq_nil_of_length_eq_zero (by omega))
       ·exact hq false (fun h=>by cases h) fun _=>.inl (List.eq_nil_of_length_eq_zero (by omega))
     ·refine ZZ (fun h=>?_) fun h=>?_
      ·obtain ⟨b1,b2⟩:=ht1 h
       have e:P++U++V++S=(P++A)++B++C++(D++S):=by rw [hp.u,hp.v];simp
       rw [e]
       refine Zb (Zr7 (P++A) B C (D++S) b1 b2 (by simp only [List.length_append];omega) s m (mid+m - s) (by simp only [List.length_append];omega) (by simp only [List.length_append];omega) (by simp only [List.length_append];omega)) ?_
       have e2:(P++A)++C++B++(D++S)=P++A++C++B++D++S:=by simp
       rw [e2]
       exact hq
      ·have e:P++U++V++S=P++A++C++B++D++S:=by
        rw [hp.u,hp.v]
        rcases ht2 h with rfl | rfl<;>simp
       rw [e]
       exact hq
    ·refine Zj (fun h=>?_) fun h=>?_
     ·by_cases h2:m<mid+m - s
      ·rw [decide_eq_true h2]
       exact hq true (fun _=>by omega) fun h=>by cases h
      ·rw [decide_eq_false h2]
       exact hq false (fun h=>by cases h) fun _=>.inr (List.eq_nil_of_length_eq_zero (by omega))
     ·exact hq false (fun h=>by cases h) fun _=>.inl (List.eq_nil_of_length_eq_zero (by omega))
   refine Zap (fun q=>∀ lo hi:Int,lo≤hi→a≤lo→hi≤m→hi≤mid∨hi=m→(lo=a∧m≤mid∧hi=m∨lo=mid+m - b∧mid<m∧hi=mid)→Tot (q lo hi) fun r=>r=P++Zad leM U V++S) (fun lo hi hlh hlo hhi hhm hcase=>?_) fun q hq=>?_
   ·refine Zan (fun x=>lo≤x.1∧x.1≤x.2∧x.2≤hi∧(x.1=lo∨∃ u v,U[(x.1 - 1 - a).toNat]? = some u∧V[(mid - x.1).toNat]? = some v∧leM u v=true)∧(x.2=hi∨∃ u v,U[(x.2 - a).toNat]? = some u∧V[(mid - 1 - x.2).toNat]? = some v∧leM u v=false)) (fun x=>(x.2 - x.1).toNat) ⟨Int.le_refl _,hlh,Int.le_refl _,.inl rfl,.inl rfl⟩ (by dsimp only;omega) ?_
    rintro ⟨st,r⟩ rec ⟨k1,k2,k3,k4,k5⟩ ih
    dsimp only at k1 k2 k3 k4 k5 ih ⊢
    refine Zj (fun hlt=>?_) fun hge=>?_
    ·rw [ZeO (by omega) (by omega) (by omega) (by omega)]
     refine Znx (by omega) (by omega) fun c hc hwc=>?_
     rw [hwc]
     have c1:(c - a).toNat<U.length:=by omega
     have c2:(mid - 1 - c).toNat<V.length:=by omega
     obtain ⟨A1,B1,d1,n1⟩:=Zvi (P:=P) (U:=U) (V:=V) (S:=S) (List.getElem?_eq_getElem c1)
     obtain ⟨A2,B2,d2,n2⟩:=Zvj (P:=P) (U:=U) (V:=V) (S:=S) (List.getElem?_eq_getElem c2)
     rw [show w64 (mid+m - 1)=mid+m - 1 from Zey (by omega) (by omega) (by omega) (by omega),show w64 (mid+m - 1 - c)=mid+m - 1 - c from Zey (by omega) (by omega) (by omega) (by omega)]
     refine Zb (Zbu d2 (by omega)) (Zb (Zbu d1 (by omega)) (Zb (ZnI _ _) ?_))
     by_cases hcm:Zd8 V[(mid - 1 - c).toNat] U[(c - a).toNat]<0
     ·rw [decide_eq_true hcm]
      refine ZZ (fun h=>by cases h) fun _=>?_
      exact ih _ ⟨k1,by dsimp only;omega,by dsimp only;omega,k4,.inr ⟨_,_,List.getElem?_eq_getElem c1,List.getElem?_eq_getElem c2,ZkZ hcm⟩⟩ (by dsimp only;omega)
     ·rw [decide_eq_false hcm]
      refine ZZ (fun _=>?_) fun h=>by cases h
      rw [ZeO (by omega) (by omega) (by omega) (by omega)]
      refine ih _ ⟨by dsimp only;omega,by dsimp only;omega,k3,.inr ⟨_,_,?_,?_,Zik hcm⟩,k5⟩ (by dsimp only;omega)
      ·dsimp only
       rw [show (c+1 - 1 - a).toNat=(c - a).toNat by omega]
       exact List.getElem?_eq_getElem c1
      ·dsimp only
       rw [show (mid - (c+1)).toNat=(mid - 1 - c).toNat by omega]
       exact List.getElem?_eq_getElem c2
    ·obtain rfl:st=r:=by omega
     have e2:w64 (mid+m - st)=mid+m - st:=Zey (by omega) (by omega) (by omega) (by omega)
     rw [e2]
     refine tail st _ _ _ _ (ZtS hU hV (st - a).toNat (mid - st).toNat (by omega) (by omega) ?_ ?_) ?_ ?_
     ·rcases k4 with rfl | ⟨u,v,q1,q2,q3⟩
      ·rcases hcase with h | h
       ·exact .inl (by omega)
       ·exact .inr (.inl (by omega))
      ·exact .inr (.inr ⟨u,v,by rw [show (st - a).toNat - 1=(st - 1 - a).toNat by omega];exact q1,q2,q3⟩)
     ·rcases k5 with rfl | ⟨u,v,q1,q2,q3⟩
      ·rcases hcase with h | h
       ·exact .inl (by omega)
       ·exact .inr (.inl (by omega))
      ·exact .inr (.inr ⟨u,v,q1,by rw [show (mid - st).toNat - 1=(mid - 1 - st).toNat by omega];exact q2,q3⟩)
     ·rw [List.length_take]
      omega
     ·rw [List.length_take]
      omega
   ·refine Zj (fun h=>?_) fun h=>?_
    ·rw [Zey (by omega) (by omega) (by omega) (by omega)]
     exact hq _ _ (by omega) (by omega) (by omega) (.inl (by omega)) (.inr ⟨rfl,h,rfl⟩)
    ·exact hq _ _ (by omega) (by omega) (by omega) (.inr rfl) (.inl ⟨rfl,by omega,rfl⟩)
def sbk (n:Nat) (L:List Memb):List Memb:=if _h:0<n∧n≤L.length then Zak leM (L.take n)++sbk n (L.drop n) else Zak leM L
 termination_by L.length
 decreasing_by rw [List.length_drop];omega
theorem ZhI {n:Nat} {L:List Memb} (h0:0<n) (h:n≤L.length):sbk n L=Zak leM (L.take n)++sbk n (L.drop n):=by
 rw [sbk,dif_pos ⟨h0,h⟩]
theorem ZgF {n:Nat} {L:List Memb} (h:L.length≤n):sbk n L=Zak leM L:=by
 rw [sbk]
 split
 ·rename_i h1
  have:n=L.length:=by omega
  rw [this,List.take_length,List.drop_length]
  rw [sbk,dif_neg (fun h=>by have h2:=h.1;have h3:=h.2;simp only [List.length_nil] at h3;omega)]
  exact List.append_nil _
 ·rfl
theorem ZqT (n:Nat):∀ (k:Nat) (L:List Memb),L.length≤k→(sbk n L).length=L.length
 | 0,L,h=>by
   rw [ZgF (by omega),Zaa]
 | k+1,L,h=>by
   by_cases h1:0<n∧n≤L.length
   ·rw [ZhI h1.1 h1.2,List.length_append,Zaa,ZqT n k (L.drop n) (by rw [List.length_drop];omega),List.length_take,List.length_drop]
    omega
   ·rw [sbk,dif_neg h1,Zaa]
theorem isrt (L:List Memb):Srt (Zak leM L):=ZeK Zbo ZfD L
theorem Zmm (A B:List Memb):Zad leM (Zak leM A) (Zak leM B)=Zak leM (A++B):=(Zfs Zbo ZfD A B).symm
theorem Zsq (L:List Memb) (hL:L.length≤1000000):Zab L (L.length:Int)=some (Zak leM L):=by
 refine Za2 ?_
 unfold Zab
 refine Zan (fun x=>∃ R E:List Memb,x.1=(R.length:Int)∧x.2.1=(R.length:Int)+20∧x.2.2=R++E∧R++sbk 20 E=sbk 20 L∧R.length+E.length=L.length) (fun x=>L.length - x.1.toNat) ⟨[],L,rfl,rfl,rfl,rfl,by simp⟩ (by dsimp only;omega) ?_
 rintro ⟨a,b,l⟩ rec ⟨R,E,ha,hb,hl,hR,hlen⟩ ih
 dsimp only at ha hb hl ih ⊢
 refine Zj (fun hle=>?_) fun hgt=>?_
 ·have h20:20≤E.length:=by omega
  have e:l=R++E.take 20++E.drop 20:=by rw [hl,List.append_assoc,List.take_append_drop]
  have ht:(E.take 20).length=20:=by rw [List.length_take];omega
  rw [e]
  refine Zb (ZuF R (E.take 20) (E.drop 20) (by rw [← e,hl,List.length_append];omega) a b ha (by rw [List.length_append];omega)) ?_
  rw [ZeO (by omega) (by omega) (by omega) (by omega)]
  refine ih _ ⟨R++Zak leM (E.take 20),E.drop 20,by dsimp only;rw [List.length_append,Zaa];omega,by dsimp only;rw [List.length_append,Zaa];omega,rfl,?_,by rw [List.length_append,Zaa,List.length_drop];omega⟩ (by dsimp only;omega)
  rw [← hR,ZhI (by decide) h20,List.append_assoc]
 ·have e:l=R++E ++ []:=by rw [hl,List.append_nil]
  rw [e]
  refine Zb (ZuF R E [] (by rw [← e,hl,List.length_append];omega) a _ ha (by rw [List.length_append];omega)) ?_
  rw [List.append_nil,← ZgF (n:=20) (L:=E) (by omega),hR]
  clear ih hR e hl ha hb hgt hlen rec
  refine Zan (fun x=>∃ n:Nat,0<n∧n≤2000000∧x.1=(n:Int)∧x.2=sbk n L) (fun x=>2000000 - x.1.toNat) ⟨20,by decide,by decide,rfl,rfl⟩ (by dsimp only;omega) ?_
  rintro ⟨bsz,l⟩ rec ⟨n,hn0,hn1,hbn,hl⟩ ih
  dsimp only at hbn hl ih ⊢
  refine Zj (fun hlt=>?_) fun hge=>?_
  ·have e2:w64 (2 * bsz)=2 * bsz:=ZaO (by omega) (by omega)
   rw [e2]
   refine Zan (fun x=>∃ R E:List Memb,x.1=(R.length:Int)∧x.2.1=(R.length:Int)+2 * (n:Int)∧x.2.2=R++sbk n E∧R++sbk (2 * n) E=sbk (2 * n) L∧R.length+E.length=L.length) (fun x=>L.length - x.1.toNat) ⟨[],L,rfl,by dsimp only;simp;omega,by rw [hl];rfl,rfl,by simp⟩ (by dsimp only;omega) ?_
   rintro ⟨a,b,l2⟩ rec2 ⟨R,E,ha,hb,hl2,hR,hlen⟩ ih2
   dsimp only at ha hb hl2 ih2 ⊢
   have eA:w64 (a+bsz)=a+bsz:=ZeO (by omega) (by omega) (by omega) (by omega)
   refine Zj (fun hle=>?_) fun hgt=>?_
   ·have h2n:2 * n≤E.length:=by omega
    have t1:(E.take n).length=n:=by rw [List.length_take];omega
    have t2:((E.drop n).take n).length=n:=by rw [List.length_take,List.length_drop];omega
    have e:l2=R++Zak leM (E.take n)++Zak leM ((E.drop n).take n)++sbk n (E.drop (2 * n)):=by
     rw [hl2,ZhI hn0 (by omega),ZhI hn0 (by rw [List.length_drop];omega),List.drop_drop,show n+n=2 * n by omega]
     simp only [List.append_assoc]
    have hd:(sbk n (E.drop (2 * n))).length=E.length - 2 * n:=by rw [ZqT n _ _ (Nat.le_refl _),List.length_drop]
    rw [eA,e]
    refine Zb (Zsm 64 R _ _ _ (isrt _) (isrt _) (by rw [Zaa];omega) (by rw [Zaa];omega) (by simp only [List.length_append,Zaa];omega) (by rw [Zaa,Zaa];omega) a (a+bsz) b ha (by rw [List.length_append,Zaa];omega) (by simp only [List.length_append,Zaa];omega)) ?_
    have et:E.take n++(E.drop n).take n=E.take (2 * n):=by rw [show 2 * n=n+n by omega,List.take_add]
    rw [Zmm,et,show w64 (b+2 * bsz)=b+2 * bsz from ZaO (by omega) (by omega)]
    have t3:(E.take (2 * n)).length=2 * n:=by rw [List.length_take];omega
    refine ih2 _ ⟨R++Zak leM (E.take (2 * n)),E.drop (2 * n),by dsimp only;rw [List.length_append,Zaa];omega,by dsimp only;rw [List.length_append,Zaa];omega,rfl,?_,by rw [List.length_append,Zaa,List.length_drop];omega⟩ (by dsimp only;omega)
    rw [← hR,ZhI (n:=2 * n) (by omega) h2n,List.append_assoc]
   ·have go:l2=R++sbk (2 * n) E→Tot (rec (w64 (bsz * 2),l2)) fun r=>r=Zak leM L:=fun h=>by
     rw [show w64 (bsz * 2)=bsz * 2 from ZaO (by omega) (by omega)]
     exact ih _ ⟨2 * n,by omega,by omega,by dsimp only;omega,by dsimp only;rw [h,hR]⟩ (by dsimp only;omega)
    refine Zap (fun q=>∀ l3,l3=R++sbk (2 * n) E→Tot (q l3) fun r=>r=Zak leM L) (fun l3 h3=>?_) fun q hq=>?_
    ·rw [show w64 (bsz * 2)=bsz * 2 from ZaO (by omega) (by omega)]
     exact ih _ ⟨2 * n,by omega,by omega,by dsimp only;omega,by dsimp only;rw [h3,hR]⟩ (by dsimp only;omega)
    ·rw [eA]
     refine Zj (fun hlt2=>?_) fun hge2=>?_
     ·have t1:(E.take n).length=n:=by rw [List.length_take];omega
      have t2:(E.drop n).length=E.length - n:=List.length_drop
      have e:l2=R++Zak leM (E.take n)++Zak leM (E.drop n) ++ []:=by
       rw [hl2,ZhI hn0 (by omega),ZgF (n:=n) (L:=E.drop n) (by omega)]
       simp only [List.append_assoc,List.append_nil]
      rw [e]
      refine Zb (Zsm 64 R _ _ _ (isrt _) (isrt _) (by rw [Zaa];omega) (by rw [Zaa];omega) (by simp only [List.length_append,Zaa,List.length_nil];omega) (by rw [Zaa,Zaa];omega) a (a+bsz) _ ha (by rw [List.length_append,Zaa];omega) (by simp only [List.length_append,Zaa];omega)) ?_
      refine hq _ ?_
      rw [Zmm,List.take_append_drop,List.append_nil,ZgF (n:=2 * n) (by omega)]
     ·refine hq _ ?_
      rw [hl2,ZgF (n:=n) (L:=E) (by omega),ZgF (n:=2 * n) (by omega)]
  ·refine Zd ?_
   rw [hl,ZgF (by omega)]
theorem Zmn (L:List Memb) (hL:L.length≤1000000):ZL L=some (Zak leM L):=by
 unfold ZL
 rw [Zsq L hL]
 rfl
end Go.Proofs.YtmgfammllddkhaaGreatDoor
namespace Go.Proofs.YtmgfammllddkhaaGreatDoor
open VL
def Zif {α:Type} (eq:α→α→Option Bool) (z:α) (p0:List α):Option (List α):=
 if (decide ((p0.length:Int)<2)) then
  (some p0:Option (List α))
 else
 Zbq Zel (fun f82 (x570:Int)=>
  if (decide (x570<(p0.length:Int))) then
   (atI p0 x570).bind fun e784=>
   (atI p0 (w64 (x570 - 1))).bind fun e785=>
   (eq e784 e785).bind fun r=>
   if r then
    (ZoO p0 x570).bind fun _=>
    Zbq Zel (fun f97 ((x830,x831,x832):Int×Int×(List α))=>
     if (decide (x831<(ZtX x832 x570))) then
      letk (fun (x847:Int) (x848:List α)=>
       f97 (x847,(w64 (x831+1)),x848)) fun k98=>
      (atQ x832 x570 x831).bind fun e849=>
      (atQ x832 x570 (w64 (x831 - 1))).bind fun e850=>
      (eq e849 e850).bind fun r=>
      if (!r) then
       (atQ x832 x570 x831).bind fun e851=>
       (atI x832 x830).bind fun _=>
       k98 (w64 (x830+1)) (ZeX x832 x830 e851)
      else
      k98 x830 x832
     else
     (ZoO x832 x830).bind fun _=>
     (ZsR (Zs6 x832 x830 z) 0 x830).bind fun l854=>
     (some l854:Option (List α))) (x570,1,p0)
   else
   f82 (w64 (x570+1))
  else
  (some p0:Option (List α))) 1
def Zdy {α:Type} (eq:α→α→Bool):α→List α→List α
 | _,[]=>[]
 | x,y::l=>if eq y x=true then Zdy eq y l else y::Zdy eq y l
def ZiV {α:Type} (eq:α→α→Bool):List α→List α
 | []=>[]
 | x::l=>x::Zdy eq x l
theorem Zj3 {α:Type} {eq:α→α→Bool} (y z:α):∀ (x:α) (A:List α),Zdy eq x (A ++ [z] ++ [y])=Zdy eq x (A ++ [z])++(if eq y z=true then [] else [y])
 | x,[]=>by
   show (if eq z x=true then Zdy eq z [y] else z::Zdy eq z [y])=(if eq z x=true then [] else [z])++_
   have:Zdy eq z [y]=if eq y z=true then [] else [y]:=rfl
   rw [this]
   split<;>rfl
 | x,a::A=>by
   show (if eq a x=true then Zdy eq a (A ++ [z] ++ [y]) else a::Zdy eq a (A ++ [z] ++ [y]))=(if eq a x=true then Zdy eq a (A ++ [z]) else a::Zdy eq a (A ++ [z]))++_
   rw [Zj3 y z a A]
   split<;>rfl
theorem ZfX {α:Type} {eq:α→α→Bool} (A:List α) (z y:α):ZiV eq (A ++ [z] ++ [y])=ZiV eq (A ++ [z])++(if eq y z=true then [] else [y]):=by
 cases A with
 | nil=>
   show z::Zdy eq z [y] = [z]++_
   rfl
 | cons a A=>
   show a::Zdy eq a (A ++ [z] ++ [y])=a::Zdy eq a (A ++ [z])++_
   rw [Zj3]
   rfl
theorem ZmL {α:Type} {l A B:List α} {x:α} {q i:Int} (h:l=A++x::B) (h0:0≤q) (h1:0≤i) (hn:q+i=(A.length:Int)):atQ l q i=some x:=by
 unfold atQ
 rw [if_pos ⟨h0,h1⟩]
 exact Zbu h hn
theorem ZlC {α:Type} (eqM:α→α→Option Bool) (eq:α→α→Bool) (heq:∀ a b,eqM a b=some (eq a b)) (z0:α) (L:List α) (hL:L.length≤1000000):Zif eqM z0 L=some (ZiV eq L):=by
 refine Za2 ?_
 unfold Zif
 refine Zj (fun h=>?_) fun h=>?_
 ·refine Zd ?_
  match L,h with
  | [],_=>rfl
  | [x],_=>rfl
  | x::y::l,h=>simp only [List.length_cons] at h;omega
 ·refine Zan (fun x=>∃ A z B,L=A++z::B∧x=(A.length:Int)+1∧ZiV eq (A ++ [z])=A ++ [z]) (fun x=>L.length - x.toNat) ?_ (by omega) ?_
  ·cases L with
   | nil=>simp only [List.length_nil] at h;omega
   | cons x l=>exact ⟨[],x,l,rfl,rfl,rfl⟩
  rintro k rec ⟨A,z,B,hd,hk,hc⟩ ih
  have lL:L.length=A.length+1+B.length:=by rw [hd];simp only [List.length_append,List.length_cons];omega
  refine Zj (fun hlt=>?_) fun hge=>?_
  ·obtain ⟨y,B,rfl⟩:∃ y B',B=y::B':=by
    cases B with
    | nil=>simp only [List.length_nil] at lL;omega
    | cons y B'=>exact ⟨y,B',rfl⟩
   simp only [List.length_cons] at lL
   have d1:L=(A ++ [z])++y::B:=by rw [hd];simp
   rw [Zey (by omega) (by omega) (by omega) (by omega)]
   refine Zb (Zbu d1 (by simp only [List.length_append,List.length_singleton];omega)) (Zb (Zbu hd (by omega)) (Zb (heq y z) (ZZ (fun hyz=>?_) fun hyz=>?_)))
   ·have hs:ZoO L k=some ():=by
     unfold ZoO
     rw [if_pos ⟨by omega,by omega⟩]
    refine Zb hs ?_
    refine Zan (fun x=>∃ K J L1 z B,x.2.2=K++J++z::B∧L=L1++z::B∧x.1=(K.length:Int)∧K.length+J.length=L1.length∧1≤x.2.1∧k+x.2.1=(L1.length:Int)+1∧ZiV eq (L1 ++ [z])=K) (fun x=>L.length - x.2.1.toNat)
     ⟨A ++ [z],[],A ++ [z],y,B,by dsimp only;rw [d1];simp,d1,by dsimp only;simp only [List.length_append,List.length_singleton];omega,by simp,by dsimp only;omega,by dsimp only;simp only [List.length_append,List.length_singleton];omega,by rw [ZfX,hc,if_pos hyz,List.append_nil]⟩ (by dsimp only;omega) ?_
    rintro ⟨kd,k2,l⟩ rec2 ⟨K,J,L1,u,C,hl,hLd,hkd,hlen,h1,hk2,hK⟩ ih2
    dsimp only at hl hkd h1 hk2 ih2 ⊢
    have lC:L.length=L1.length+1+C.length:=by rw [hLd];simp only [List.length_append,List.length_cons];omega
    have ll:l.length=L.length:=by rw [hl];simp only [List.length_append,List.length_cons];omega
    have hq:ZtX l k=(L.length:Int) - k:=by unfold ZtX;rw [ll];omega
    rw [hq]
    refine Zj (fun hlt2=>?_) fun hge2=>?_
    ·obtain ⟨v,C,rfl⟩:∃ v C',C=v::C':=by
      cases C with
      | nil=>simp only [List.length_nil] at lC;omega
      | cons v C'=>exact ⟨v,C',rfl⟩
     simp only [List.length_cons] at lC
     have e1:l=(K++J ++ [u])++v::C:=by rw [hl];simp
     have n1:k+k2=((K++J ++ [u]).length:Int):=by simp only [List.length_append,List.length_singleton];omega
     have n2:k+(k2 - 1)=((K++J).length:Int):=by simp only [List.length_append];omega
     have hLd2:L=(L1 ++ [u])++v::C:=by rw [hLd];simp
     refine ZaM ?_
     rw [Zey (by omega) (by omega) (by omega) (by omega),ZeO (a:=k2) (by omega) (by omega) (by omega) (by omega)]
     refine Zb (ZmL e1 (by omega) (by omega) n1) (Zb (ZmL hl (by omega) (by omega) n2) (Zb (heq v u) ?_))
     cases hvu:eq v u with
     | false=>
       refine ZZ (fun _=>?_) fun h=>by cases h
       obtain ⟨w,J2,hJ⟩:∃ w J2,J ++ [u]=w::J2:=by
        cases J with
        | nil=>exact ⟨u,[],rfl⟩
        | cons w J2=>exact ⟨w,J2 ++ [u],rfl⟩
       have lJ:J.length+1=J2.length+1:=by have:=congrArg List.length hJ;simpa using this
       have e2:l=K++w::(J2++v::C):=by rw [e1,List.append_assoc K J [u],hJ];simp
       refine Zb (ZmL e1 (by omega) (by omega) n1) (Zb (Zbu e2 hkd) ?_)
       dsimp only
       rw [ZeO (by omega) (by omega) (by omega) (by omega)]
       refine ih2 _ ⟨K ++ [v],J2,L1 ++ [u],v,C,?_,hLd2,by dsimp only;simp only [List.length_append,List.length_singleton];omega,by simp only [List.length_append,List.length_singleton];omega,by dsimp only;omega,by dsimp only;simp only [List.length_append,List.length_singleton];omega,?_⟩ (by dsimp only;omega)
       ·dsimp only
        rw [Ze4 e2 hkd]
        simp
       ·rw [ZfX,hK,hvu]
        rfl
     | true=>
       refine ZZ (fun h=>by cases h) fun _=>?_
       dsimp only
       refine ih2 _ ⟨K,J ++ [u],L1 ++ [u],v,C,by dsimp only;rw [hl];simp,hLd2,hkd,by simp only [List.length_append,List.length_singleton];omega,by dsimp only;omega,by dsimp only;simp only [List.length_append,List.length_singleton];omega,?_⟩ (by dsimp only;omega)
       rw [ZfX,hK,hvu]
       exact List.append_nil _
    ·have hC:C = []:=List.eq_nil_of_length_eq_zero (by omega)
     subst hC
     have hs2:ZoO l kd=some ():=by
      unfold ZoO
      rw [if_pos ⟨by omega,by omega⟩]
     refine Zb hs2 ?_
     have hcl:Zs6 l kd z0=K++List.replicate (l.length - K.length) z0:=by
      unfold Zs6
      rw [hkd,Int.toNat_natCast,hl]
      congr 1
      rw [List.append_assoc,List.take_left]
     refine Zb (v:=K) ?_ (Zd ?_)
     ·rw [hcl]
      unfold ZsR
      rw [if_pos ⟨by omega,by omega,by rw [hkd,List.length_append];omega⟩,hkd]
      simp
     ·rw [← hK,hLd]
   ·rw [ZeO (by omega) (by omega) (by omega) (by omega)]
    refine ih _ ⟨A ++ [z],y,B,d1,by simp only [List.length_append,List.length_singleton];omega,?_⟩ (by omega)
    rw [ZfX,hc,if_neg (by rw [hyz];decide)]
  ·have hB:B = []:=List.eq_nil_of_length_eq_zero (by omega)
   subst hB
   refine Zd ?_
   rw [hd,hc]
theorem ZkL:ZaQ=Zif (fun a b=>some (decide (a=b))) ⟨0,⟨0,⟨#[]⟩⟩⟩:=rfl
theorem ZkM:ZU=Zif Zec ⟨⟨0,⟨#[]⟩⟩,⟨#[]⟩⟩:=rfl
theorem ZkN (L:List Link) (hL:L.length≤1000000):ZaQ L=some (ZiV (fun a b=>decide (a=b)) L):=by
 rw [ZkL]
 exact ZlC _ _ (fun _ _=>rfl) _ L hL
theorem ZkO (L:List Memb) (hL:L.length≤1000000):ZU L=some (ZiV (fun a b=>decide (a.category=b.category)) L):=by
 rw [ZkM]
 exact ZlC _ _ (fun _ _=>rfl) _ L hL
theorem ZiT {α:Type} {eq:α→α→Bool}:∀ (l:List α) (x e:α),e ∈ Zdy eq x l→e ∈ l
 | [],x,e,h=>by cases h
 | y::l,x,e,h=>by
   have h:e ∈ (if eq y x=true then Zdy eq y l else y::Zdy eq y l):=h
   split at h
   ·exact List.mem_cons_of_mem _ (ZiT l y e h)
   ·rcases List.mem_cons.1 h with rfl | h
    ·exact List.mem_cons_self
    ·exact List.mem_cons_of_mem _ (ZiT l y e h)
theorem Zns {α κ:Type} [DecidableEq κ] {le:α→α→Bool} (key:α→κ) (ha:∀ a b,le a b=true→le b a=true→key a=key b) (hk:∀ a b,key a=key b→∀ c,le c a=le c b∧le a c=le b c) :
  ∀ (l:List α) (x:α),(x::l).Pairwise (fun a b=>le a b=true)→(x::Zdy (fun a b=>decide (key a=key b)) x l).Pairwise fun a b=>¬ key a=key b
 | [],x,_=>List.pairwise_singleton _ _
 | y::l,x,h=>by
   obtain ⟨h1,h2⟩:=List.pairwise_cons.1 h
   have ih:=Zns key ha hk l y h2
   show (x::(if decide (key y=key x)=true then Zdy (fun a b=>decide (key a=key b)) y l else y::Zdy (fun a b=>decide (key a=key b)) y l)).Pairwise _
   obtain ⟨i1,i2⟩:=List.pairwise_cons.1 ih
   by_cases hy:key y=key x
   ·rw [if_pos (decide_eq_true hy)]
    exact List.pairwise_cons.2 ⟨fun e he=>by rw [← hy];exact i1 e he,i2⟩
   ·rw [if_neg (by rw [decide_eq_false hy];decide)]
    refine List.pairwise_cons.2 ⟨fun e he=>?_,ih⟩
    rcases List.mem_cons.1 he with rfl | he
    ·exact fun h=>hy h.symm
    ·intro hxe
     have hle:=(List.pairwise_cons.1 h2).1 e (ZiT l y e he)
     have hxy:=h1 y List.mem_cons_self
     rw [← ((hk x e hxe y).1)] at hle
     exact hy (ha y x hle hxy)
theorem Znt {α κ:Type} [DecidableEq κ] {le:α→α→Bool} (key:α→κ) (ha:∀ a b,le a b=true→le b a=true→key a=key b) (hk:∀ a b,key a=key b→∀ c,le c a=le c b∧le a c=le b c) (l:List α) (h:l.Pairwise (fun a b=>le a b=true)):(ZiV (fun a b=>decide (key a=key b)) l).Pairwise fun a b=>¬ key a=key b:=by
 cases l with
 | nil=>exact .nil
 | cons x l=>exact Zns key ha hk l x h
end Go.Proofs.YtmgfammllddkhaaGreatDoor
