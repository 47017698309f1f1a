/- The reference's words ahead of a colon. | A slice of strings that the call itself made: reading and storing an element. No program is named. | The reference's Parts: a text divided at each slash. | Plain laws: the reference's Parts and prefixed say what strings.Split and title.prefix say. | The reference's Valid. | The reference's Has, BuiltIn, exists; the program's builtIn. | append as one step of a region that draws its order. No program is named. -/
import Derived.Test.YtjoneoobolnnbaaGreatDoorCF07
import Derived.Test.YtjoneoobolnnbaaGreatDoorCF01
import Derived.Laws.OwnMore
import Derived.Lib.IndexBytes
import Derived.Deep.RegionLaw
namespace Go.Proofs.YtjoneoobolnnbaaGreatDoor
open Go.RowKit
theorem ZnU (c:UInt8) (w:World):Calls Tryz.prog 219 #[.int .u8 c.toNat] w fun e w'=>e = .returned (.int .u8 ((ZgF c).toNat:Int))∧w=w':=by
 refine (Zmv _ (ZvL c).1 (ZvL c).2 w).mono ?_
 rintro e w' ⟨rfl,rfl⟩
 exact ⟨by rw [ZqM],rfl⟩
def Zg5 (a b:ByteArray):Bool:=decide (Zan a.data.toList=Zan b.data.toList)
theorem Zdj (l:List UInt8):(Zan l).length=l.length:=by simp [Zan]
theorem ZpH {a b:ByteArray} (h:a.size≠b.size):Zg5 a b=false:=by
 unfold Zg5
 refine decide_eq_false fun e=>h ?_
 have:=congrArg List.length e
 rw [Zdj,Zdj,Array.length_toList,Array.length_toList] at this
 exact this
theorem Zs5 {a b:ByteArray} (j:Nat) (ha:j<a.size) (hb:j<b.size) (h:ZgF a[j]≠ZgF b[j]):Zg5 a b=false:=by
 unfold Zg5
 refine decide_eq_false fun e=>h ?_
 have:=congrArg (·[j]?) e
 simp only [Zan,List.getElem?_map] at this
 rw [show a.data.toList[j]? = some a[j] from List.getElem?_eq_getElem (by rw [Array.length_toList];exact ha),show b.data.toList[j]? = some b[j] from List.getElem?_eq_getElem (by rw [Array.length_toList];exact hb)] at this
 simpa using this
theorem Zrh {a b:ByteArray} (hs:a.size=b.size) (h:∀ j (ha:j<a.size) (hb:j<b.size),ZgF a[j]=ZgF b[j]):Zg5 a b=true:=by
 unfold Zg5
 refine decide_eq_true (List.ext_getElem ?_ fun j h1 h2=>?_)
 ·rw [Zdj,Zdj,Array.length_toList,Array.length_toList];exact hs
 ·rw [Zdj,Array.length_toList] at h1 h2
  simp only [Zan,List.getElem_map]
  exact h j h1 h2
theorem ZuH {c d:UInt8} (h:¬ ((ZgF c).toNat:Int)=(ZgF d).toNat):ZgF c≠ZgF d:=fun e=>h (by rw [e])
theorem ZuI {c d:UInt8} (h:((ZgF c).toNat:Int)=(ZgF d).toNat):ZgF c=ZgF d:=UInt8.toNat_inj.1 (by omega)
set_option maxRecDepth 100000 in
set_option maxHeartbeats 2000000 in
theorem ZcA (a b:ByteArray) (w:World) (hsz:a.size≤4611686018427387904):Calls Tryz.prog 169 #[.string a,.string b] w fun e w'=>e = .returned (.bool (Zg5 a b))∧Below w.heap.size w w':=by
 by_cases hl:a.size=b.size
 case neg=>
  have HE:=Lib.hid (ZpH hl)
  have h1:¬ (a.size:Int)=b.size:=by omega
  go_enter Tryz.func169,Tryz.ntmps169
  go_wp2
  all_goals first | (exfalso;omega) | (go_ret;exact ⟨ZaI HE.out.symm,Below.refl _ _⟩)
 have HN:Hid (∀ j (ha:j<a.size) (hb:j<b.size),¬ ((ZgF a[j]).toNat:Int)=(ZgF b[j]).toNat→Zg5 a b=false):=Lib.hid fun j ha hb h=>Zs5 j ha hb (ZuH h)
 have HG:Hid ((∀ j (ha:j<a.size) (hb:j<b.size),((ZgF a[j]).toNat:Int)=(ZgF b[j]).toNat)→Zg5 a b=true):=Lib.hid fun h=>Zrh hl fun j ha hb=>ZuI (h j ha hb)
 have HL:=Lib.hid hl
 have hl1:(a.size:Int)=b.size:=by omega
 clear hl
 go_enter Tryz.func169,Tryz.ntmps169
 go_wp2_with fail
 clear hl1
 go_loopw [5] (fun i wr=>∃ q:Nat,q≤a.size∧i = .int .i64 q∧Below w.heap.size w wr∧Hid (∀ j (ha:j<a.size) (hb:j<b.size),j<q→((ZgF a[j]).toNat:Int)=(ZgF b[j]).toNat)) (fun i _=>a.size - (intOf i).toNat)
 case atStart=>exact ⟨0,by omega,rfl,Below.refl _ _,Lib.hid fun j _ _ h=>absurd h (by omega)⟩
 case round=>
  obtain ⟨q,hq,rfl,hbw,hno⟩:=hrel
  have HQ:=Lib.hid hbw
  clear hbw
  by_cases hlt:q<a.size
  ·have hlb:q<b.size:=by rw [← HL.out];exact hlt
   have HS:Hid (((ZgF a[q]).toNat:Int)=(ZgF b[q]).toNat→∀ j (ha:j<a.size) (hb:j<b.size),j<q+1→((ZgF a[j]).toNat:Int)=(ZgF b[j]).toNat):=Lib.hid fun h j hj hb hj2=>by
    by_cases e:j<q
    ·exact hno.out j hj hb e
    ·have:j=q:=by omega
     subst this;exact h
   have HN2:=Lib.hid (HN.out q hlt hlb)
   have b1:(0:Int)≤q:=by omega
   have b2:(q:Int)<(a.size:Int):=by omega
   have b3:(q:Int)<(b.size:Int):=by omega
   go_wp2_with fail
   go_quiet ((go_at_call 219;exact Calls.quiet_of_same ((ZnU _ _).mono (fun e w' h=>⟨h.1,h.2.symm⟩))))
   go_wp2
   all_goals (try simp only [bne_iff_ne,bne_eq_false_iff_eq,ne_eq] at *)
   ·rename_i h
    go_ret
    exact ⟨ZaI (HN2.out h).symm,Below.dn HQ.out _⟩
   ·rename_i h
    exact ⟨⟨q+1,by omega,by simp,Below.dn HQ.out _,Lib.hid (HS.out h)⟩,by simp [intOf];omega⟩
  ·have HE:=Lib.hid (HG.out fun j hj hb=>hno.out j hj hb (by omega))
   have b2:(a.size:Int)≤(q:Int):=by omega
   go_wp2
   all_goals first | (exfalso;omega) | (go_ret;exact ⟨ZaI HE.out.symm,HQ.out⟩)
def ZgQ (z:Int):ByteArray:=if z=1 then ⟨#[84,97,108,107]⟩ else if z=2 then ⟨#[85,115,101,114]⟩ else if z=3 then ⟨#[84,101,109,112,108,97,116,101]⟩ else if z=4 then ⟨#[67,97,116,101,103,111,114,121]⟩ else if z=5 then ⟨#[80,114,111,106,101,99,116]⟩ else ⟨#[]⟩
set_option maxRecDepth 100000 in
set_option maxHeartbeats 2000000 in
theorem Zdt (z:Int) (w:World):Calls Tryz.prog 170 #[.int .i64 z] w fun e w'=>e = .returned (.string (ZgQ z))∧Below w.heap.size w w':=by
 have hz:z<0∨6≤z∨z=0∨z=1∨z=2∨z=3∨z=4∨z=5:=by omega
 have HE:Hid (z<0∨6≤z→ZgQ z=⟨#[]⟩):=Lib.hid fun h=>by
  unfold ZgQ
  rw [if_neg (by omega),if_neg (by omega),if_neg (by omega),if_neg (by omega),if_neg (by omega)]
 by_cases hin:0≤z∧z<6
 ·obtain ⟨h0,h6⟩:=hin
  obtain rfl | rfl | rfl | rfl | rfl | rfl:z=0∨z=1∨z=2∨z=3∨z=4∨z=5:=by omega
  all_goals
   go_enter Tryz.func170,Tryz.ntmps170
   go_wp2
   go_ret
   exact ⟨rfl,Below.al (Below.refl _ _) _⟩
 ·have HE2:=Lib.hid (HE.out (by omega))
  have hz2:z<0∨6≤z:=by omega
  clear hz hin HE
  go_enter Tryz.func170,Tryz.ntmps170
  rcases hz2 with hz2 | hz2
  all_goals
   go_wp2
  all_goals
   first
   | (exfalso;omega)
   | (go_ret
      exact ⟨by rw [HE2.out];rfl,Below.al (Below.refl _ _) _⟩)
theorem Zg6 (z:Int) (h1:1≤z) (h2:z<6):Zan (ZgQ z).data.toList=Zaa z.toNat:=by
 obtain rfl | rfl | rfl | rfl | rfl:z=1∨z=2∨z=3∨z=4∨z=5:=by omega
 all_goals decide
def Zia (p:ByteArray):ByteArray:=if h:0<p.size then (if (p[p.size - 1]'(by omega)).toNat=32 then p.extract 0 (p.size - 1) else p) else p
theorem Zri (s:ByteArray) (k:Nat) {h0:min k s.size - 1<(s.extract 0 k).size} (h:(((s.extract 0 k)[min k s.size - 1]'h0).toNat:Int)=32):Zia (s.extract 0 k)=(s.extract 0 k).extract 0 (min k s.size - 1):=by
 have hsz:(s.extract 0 k).size=min k s.size:=by simp [ByteArray.size_extract]
 unfold Zia
 rw [dif_pos (by omega),if_pos (by simp only [hsz];omega),hsz]
theorem ZpI (s:ByteArray) (k:Nat) {h0:min k s.size - 1<(s.extract 0 k).size} (h:¬ (((s.extract 0 k)[min k s.size - 1]'h0).toNat:Int)=32):Zia (s.extract 0 k)=s.extract 0 k:=by
 have hsz:(s.extract 0 k).size=min k s.size:=by simp [ByteArray.size_extract]
 unfold Zia
 rw [dif_pos (by omega),if_neg (by simp only [hsz];omega)]
theorem ZpJ (s:ByteArray) (k:Nat) (h:¬ 0<min k s.size):Zia (s.extract 0 k)=s.extract 0 k:=by
 have hsz:(s.extract 0 k).size=min k s.size:=by simp [ByteArray.size_extract]
 unfold Zia
 rw [dif_neg (by omega)]
def ZiG (s:ByteArray):Int×Int:=
 if Lib.index s.data.toList [58]<0 then (0,0) else if ZaW (Zan (Zia (s.extract 0 (Lib.index s.data.toList [58]).toNat)).data.toList)=0 then (0,0) else (ZaW (Zan (Zia (s.extract 0 (Lib.index s.data.toList [58]).toNat)).data.toList),Lib.index s.data.toList [58])
theorem Zrj:∀ {s:List UInt8} {c:UInt8},0≤Lib.index s [c]→Lib.index s [c]<s.length:=by
 intro s
 induction s with
 | nil=>intro c h;exact absurd h (by simp [Lib.index])
 | cons a r ih=>
   intro c h
   by_cases h1:List.isPrefixOf [c] (a::r)=true
   ·simp only [Lib.index,h1,if_true];simp
   ·simp only [Lib.index,h1] at h ⊢
    by_cases h2:(Lib.index r [c] == -1)=true
    ·simp [h2] at h
    ·simp only [h2] at h ⊢
     have hge:0≤Lib.index r [c]:=by
      have h3:Lib.index r [c]≠-1:=fun e=>h2 (by rw [e];rfl)
      simp at h
      omega
     have:=ih hge
     simp
     omega
theorem Zs6 {s:ByteArray} {c:UInt8} (h:0≤Lib.index s.data.toList [c]):Lib.index s.data.toList [c]<s.size:=by
 have:=Zrj h
 rw [Array.length_toList] at this
 exact this
set_option maxRecDepth 100000 in
set_option maxHeartbeats 2000000 in
theorem ZjN (s:ByteArray) (w:World) (hs:s.size≤4611686018427387904):Calls Tryz.prog 120 #[.string s] w fun e w'=>e = .returned (.tuple #[.int .i64 (ZiG s).1,.int .i64 (ZiG s).2])∧Below w.heap.size w w':=by
 have HR:Hid (ZiG s=if Lib.index s.data.toList [58]<0 then (0,0) else if ZaW (Zan (Zia (s.extract 0 (Lib.index s.data.toList [58]).toNat)).data.toList)=0 then (0,0) else (ZaW (Zan (Zia (s.extract 0 (Lib.index s.data.toList [58]).toNat)).data.toList),Lib.index s.data.toList [58])):=Lib.hid rfl
 have HI:Hid (0≤Lib.index s.data.toList [58]→Lib.index s.data.toList [58]<s.size):=Lib.hid Zs6
 generalize ZiG s=R at *
 go_enter Tryz.func120,Tryz.ntmps120
 go_wp2_with fail
 refine (Ziz s ⟨#[58]⟩ _ (by show s.size+1≤_;omega)).mono ?_
 rintro e w1 ⟨rfl,rfl⟩
 rw [show (⟨#[58]⟩:ByteArray).data.toList = [58] from rfl]
 generalize Lib.index s.data.toList [58]=at0 at *
 by_cases h0:at0<0
 ·obtain rfl:=HR.out.trans (if_pos h0)
  go_wp2
  all_goals first | (exfalso;omega) | (exact bodyPost_ret (v:=.tuple #[.int .i64 0,.int .i64 0]) (by simp [results,Tryz.results120,go_sem]) rfl ⟨rfl,Below.refl _ _⟩)
 obtain ⟨k,rfl⟩:∃ k:Nat,at0=k:=⟨at0.toNat,by omega⟩
 have hk:=HI.out (by omega)
 have HR2:=Lib.hid (HR.out.trans (if_neg h0))
 clear HR HI h0
 simp only [Int.toNat_natCast] at HR2
 have b1:(0:Int)≤k:=by omega
 by_cases hp:0<min k s.size
 case neg=>
  rw [ZpJ s k (by omega)] at HR2
  go_wp2_with fail
  have hNs:Hid ((s.extract 0 k).size≤4611686018427387904):=Lib.hid (by simp only [ByteArray.size_extract];omega)
  clear hs
  go_loopw [6] (fun i wr=>∃ z:Int,1≤z∧z≤6∧i = .int .i64 z∧Below w.heap.size w wr∧Hid (∀ j:Nat,1≤j→(j:Int)<z→Zan (s.extract 0 k).data.toList≠Zaa j)) (fun i _=>6 - (intOf i).toNat)
  case atStart=>exact ⟨1,by omega,by omega,rfl,Below.refl _ _,fun j _ h=>absurd h (by omega)⟩
  case round=>
   obtain ⟨z,hz0,hz6,rfl,hbw,hno⟩:=hrel
   have HQ:=Lib.hid hbw
   clear hbw
   by_cases h6:z=6
   ·subst h6
    have hz:ZaW (Zan (s.extract 0 k).data.toList)=0:=Zel _ fun j h1 h2=>hno.out j h1 (by omega)
    obtain rfl:=HR2.out.trans (if_pos hz)
    clear hz
    go_wp2
    exact bodyPost_ret (v:=.tuple #[.int .i64 0,.int .i64 0]) (by simp [results,Tryz.results120,go_sem]) rfl ⟨rfl,HQ.out⟩
   ·have hz7:z<6:=by omega
    have HF:=Lib.hid (Zg6 z hz0 hz7)
    go_wp2_with fail
    refine (Zdt z _).mono ?_
    rintro e w5 ⟨rfl,hb5⟩
    go_wp2_with fail
    refine (ZcA _ _ _ hNs.out).mono ?_
    rintro e w6 ⟨rfl,hb6⟩
    have HB6:=Lib.hid (Below.tr HQ.out (Below.tr hb5 hb6))
    clear hb5 hb6
    by_cases hsame:Zg5 (s.extract 0 k) (ZgQ z)=true
    ·have hfl:Zan (s.extract 0 k).data.toList=Zaa z.toNat:=(of_decide_eq_true hsame).trans HF.out
     have hz:ZaW (Zan (s.extract 0 k).data.toList)=z:=by rw [hfl,ZfR z.toNat (by omega) (by omega)];omega
     have hR:=HR2.out.trans (if_neg (by rw [hz];omega))
     rw [hz] at hR
     obtain rfl:=hR
     rw [hsame]
     clear hz hfl
     go_wp2
     exact bodyPost_ret (v:=.tuple #[.int .i64 z,.int .i64 k]) (by simp [results,Tryz.results120,go_sem]) rfl ⟨rfl,HB6.out⟩
    ·have hsame:Zg5 (s.extract 0 k) (ZgQ z)=false:=by simpa using hsame
     have hfl:Zan (s.extract 0 k).data.toList≠Zaa z.toNat:=fun e=>of_decide_eq_false hsame (e.trans HF.out.symm)
     have HN:=Lib.hid hfl
     rw [hsame]
     clear hfl
     go_wp2
     go_roundw
     case rel=>
      refine ⟨z+1,by omega,by omega,rfl,HB6.out,fun j h1 h2=>?_⟩
      by_cases e:(j:Int)<z
      ·exact hno.out j h1 e
      ·have:j=z.toNat:=by omega
       subst this;exact HN.out
     case measure=>simp [intOf];omega
 have hq:min k s.size - 1<(s.extract 0 k).size:=by simp only [ByteArray.size_extract];omega
 have b3:(1:Int)≤(min k s.size:Nat):=by omega
 by_cases h:(((s.extract 0 k)[min k s.size - 1]'hq).toNat:Int)=32
 ·rw [Zri s k h] at HR2
  go_wp2_with fail
  clear h b3 hp
  have hNs:Hid (((s.extract 0 k).extract 0 (min k s.size - 1)).size≤4611686018427387904):=Lib.hid (by simp only [ByteArray.size_extract];omega)
  clear hs
  go_loopw [6] (fun i wr=>∃ z:Int,1≤z∧z≤6∧i = .int .i64 z∧Below w.heap.size w wr∧Hid (∀ j:Nat,1≤j→(j:Int)<z→Zan ((s.extract 0 k).extract 0 (min k s.size - 1)).data.toList≠Zaa j)) (fun i _=>6 - (intOf i).toNat)
  case atStart=>exact ⟨1,by omega,by omega,rfl,Below.refl _ _,fun j _ h=>absurd h (by omega)⟩
  case round=>
   obtain ⟨z,hz0,hz6,rfl,hbw,hno⟩:=hrel
   have HQ:=Lib.hid hbw
   clear hbw
   by_cases h6:z=6
   ·subst h6
    have hz:ZaW (Zan ((s.extract 0 k).extract 0 (min k s.size - 1)).data.toList)=0:=Zel _ fun j h1 h2=>hno.out j h1 (by omega)
    obtain rfl:=HR2.out.trans (if_pos hz)
    clear hz
    go_wp2
    exact bodyPost_ret (v:=.tuple #[.int .i64 0,.int .i64 0]) (by simp [results,Tryz.results120,go_sem]) rfl ⟨rfl,HQ.out⟩
   ·have hz7:z<6:=by omega
    have HF:=Lib.hid (Zg6 z hz0 hz7)
    go_wp2_with fail
    refine (Zdt z _).mono ?_
    rintro e w5 ⟨rfl,hb5⟩
    go_wp2_with fail
    refine (ZcA _ _ _ hNs.out).mono ?_
    rintro e w6 ⟨rfl,hb6⟩
    have HB6:=Lib.hid (Below.tr HQ.out (Below.tr hb5 hb6))
    clear hb5 hb6
    by_cases hsame:Zg5 ((s.extract 0 k).extract 0 (min k s.size - 1)) (ZgQ z)=true
    ·have hfl:Zan ((s.extract 0 k).extract 0 (min k s.size - 1)).data.toList=Zaa z.toNat:=(of_decide_eq_true hsame).trans HF.out
     have hz:ZaW (Zan ((s.extract 0 k).extract 0 (min k s.size - 1)).data.toList)=z:=by rw [hfl,ZfR z.toNat (by omega) (by omega)];omega
     have hR:=HR2.out.trans (if_neg (by rw [hz];omega))
     rw [hz] at hR
     obtain rfl:=hR
     rw [hsame]
     clear hz hfl
     go_wp2
     exact bodyPost_ret (v:=.tuple #[.int .i64 z,.int .i64 k]) (by simp [results,Tryz.results120,go_sem]) rfl ⟨rfl,HB6.out⟩
    ·have hsame:Zg5 ((s.extract 0 k).extract 0 (min k s.size - 1)) (ZgQ z)=false:=by simpa using hsame
     have hfl:Zan ((s.extract 0 k).extract 0 (min k s.size - 1)).data.toList≠Zaa z.toNat:=fun e=>of_decide_eq_false hsame (e.trans HF.out.symm)
     have HN:=Lib.hid hfl
     rw [hsame]
     clear hfl
     go_wp2
     go_roundw
     case rel=>
      refine ⟨z+1,by omega,by omega,rfl,HB6.out,fun j h1 h2=>?_⟩
      by_cases e:(j:Int)<z
      ·exact hno.out j h1 e
      ·have:j=z.toNat:=by omega
       subst this;exact HN.out
     case measure=>simp [intOf];omega
 ·rw [ZpI s k h] at HR2
  have h2:((((s.extract 0 k)[min k s.size - 1]'hq).toNat:Int) == 32)=false:=beq_eq_false_iff_ne.2 h
  clear h
  go_wp2_with fail
  clear h2 hp
  have hNs:Hid ((s.extract 0 k).size≤4611686018427387904):=Lib.hid (by simp only [ByteArray.size_extract];omega)
  clear hs
  go_loopw [6] (fun i wr=>∃ z:Int,1≤z∧z≤6∧i = .int .i64 z∧Below w.heap.size w wr∧Hid (∀ j:Nat,1≤j→(j:Int)<z→Zan (s.extract 0 k).data.toList≠Zaa j)) (fun i _=>6 - (intOf i).toNat)
  case atStart=>exact ⟨1,by omega,by omega,rfl,Below.refl _ _,fun j _ h=>absurd h (by omega)⟩
  case round=>
   obtain ⟨z,hz0,hz6,rfl,hbw,hno⟩:=hrel
   have HQ:=Lib.hid hbw
   clear hbw
   by_cases h6:z=6
   ·subst h6
    have hz:ZaW (Zan (s.extract 0 k).data.toList)=0:=Zel _ fun j h1 h2=>hno.out j h1 (by omega)
    obtain rfl:=HR2.out.trans (if_pos hz)
    clear hz
    go_wp2
    exact bodyPost_ret (v:=.tuple #[.int .i64 0,.int .i64 0]) (by simp [results,Tryz.results120,go_sem]) rfl ⟨rfl,HQ.out⟩
   ·have hz7:z<6:=by omega
    have HF:=Lib.hid (Zg6 z hz0 hz7)
    go_wp2_with fail
    refine (Zdt z _).mono ?_
    rintro e w5 ⟨rfl,hb5⟩
    go_wp2_with fail
    refine (ZcA _ _ _ hNs.out).mono ?_
    rintro e w6 ⟨rfl,hb6⟩
    have HB6:=Lib.hid (Below.tr HQ.out (Below.tr hb5 hb6))
    clear hb5 hb6
    by_cases hsame:Zg5 (s.extract 0 k) (ZgQ z)=true
    ·have hfl:Zan (s.extract 0 k).data.toList=Zaa z.toNat:=(of_decide_eq_true hsame).trans HF.out
     have hz:ZaW (Zan (s.extract 0 k).data.toList)=z:=by rw [hfl,ZfR z.toNat (by omega) (by omega)];omega
     have hR:=HR2.out.trans (if_neg (by rw [hz];omega))
     rw [hz] at hR
     obtain rfl:=hR
     rw [hsame]
     clear hz hfl
     go_wp2
     exact bodyPost_ret (v:=.tuple #[.int .i64 z,.int .i64 k]) (by simp [results,Tryz.results120,go_sem]) rfl ⟨rfl,HB6.out⟩
    ·have hsame:Zg5 (s.extract 0 k) (ZgQ z)=false:=by simpa using hsame
     have hfl:Zan (s.extract 0 k).data.toList≠Zaa z.toNat:=fun e=>of_decide_eq_false hsame (e.trans HF.out.symm)
     have HN:=Lib.hid hfl
     rw [hsame]
     clear hfl
     go_wp2
     go_roundw
     case rel=>
      refine ⟨z+1,by omega,by omega,rfl,HB6.out,fun j h1 h2=>?_⟩
      by_cases e:(j:Int)<z
      ·exact hno.out j h1 e
      ·have:j=z.toNat:=by omega
       subst this;exact HN.out
     case measure=>simp [intOf];omega
theorem ZfS:∀ (css:List (List Value)) (xs:List ByteArray),css.length=xs.length→(∀ (i:Nat) (x:ByteArray) (cs:List Value),xs[i]? = some x→css[i]? = some cs→cs = [.string x])→css.flatten=xs.map Value.string
 | [],[],_,_=>rfl
 | [],_::_,h,_=>by simp at h
 | _::_,[],h,_=>by simp at h
 | c::css,x::xs,h,hR=>by
   have h0:=hR 0 x c rfl rfl
   subst h0
   rw [List.flatten_cons,ZfS css xs (by simpa using h) (fun i y cs hy hcs=>hR (i+1) y cs (by simpa using hy) (by simpa using hcs))]
   rfl
theorem OwnL.row {w:World} {B:Nat} {E:TypeId} {v:Value} {xs:List ByteArray} (h:OwnL w B E v xs):w.ownsRow B E 1 v xs.length (xs.map Value.string):=by
 obtain ⟨css,hl,hr,hR⟩:=h
 rw [ZfS css xs hl (fun i x cs hx hcs=>hR i x cs hx hcs)] at hr
 exact hr
theorem OwnL.of_row {w:World} {B:Nat} {E:TypeId} {v:Value} {xs:List ByteArray} (h:w.ownsRow B E 1 v xs.length (xs.map Value.string)):OwnL w B E v xs:=by
 refine ⟨xs.map (fun x=>[.string x]),by simp,?_,fun i x cs hx hcs=>?_⟩
 ·rw [ZfS _ xs (by simp) (fun i x cs hx hcs=>by rw [List.getElem?_map,hx] at hcs;simpa using hcs.symm)]
  exact h
 ·rw [List.getElem?_map,hx] at hcs
  show cs = [.string x]
  simpa using hcs.symm
theorem OwnL.cellS {w:World} {B:Nat} {E:TypeId} {g n c:Nat} {xs:List ByteArray} (h:OwnL w B E (.slice (some ⟨g,0,none⟩) n c) xs) (hn:n=xs.length) {i:Nat} {x:ByteArray} (hx:xs[i]? = some x):w.cell? ⟨g,i,none⟩=some (.string x):=by
 subst hn
 have hi:=(List.getElem?_eq_some_iff.1 hx).1
 rw [h.row.cellAt i (by omega),List.getElem?_map,hx]
 rfl
theorem OwnL.frozenS {w:World} {B:Nat} {E:TypeId} {g n c:Nat} {xs:List ByteArray} (h:OwnL w B E (.slice (some ⟨g,0,none⟩) n c) xs) (hn:n=xs.length) (i:Nat):w.frozen? ⟨g,i,none⟩=false:=by
 subst hn
 exact h.row.frozenAt i
theorem OwnL.setS {w:World} {B:Nat} {E:TypeId} {g n c:Nat} {xs:List ByteArray} (h:OwnL w B E (.slice (some ⟨g,0,none⟩) n c) xs) (hn:n=xs.length) (i:Nat) (y:ByteArray):OwnL (w.setCell ⟨g,i,none⟩ (.string y)) B E (.slice (some ⟨g,0,none⟩) n c) (xs.set i y):=by
 subst hn
 have:=(h.row.stored i (.string y)).1
 refine OwnL.of_row ?_
 rw [List.length_set,List.map_set]
 exact this
def ZcJ (l:List ByteArray) (c:UInt8):List ByteArray:=if c.toNat=47 then l ++ [⟨#[]⟩] else l.set (l.length - 1) (l[l.length - 1]?.getD ⟨#[]⟩++⟨#[c]⟩)
def Zer (s:List UInt8):List ByteArray:=s.foldl ZcJ [⟨#[]⟩]
theorem okS:Zj9 Tryz.prog 37 9 (Enc.k ByteArray) 16:=ZtJ Tryz.underlying37 (by kernel_rfl)
theorem Zn7 (s:ByteArray) (q:Nat) (h:q<s.size):Zer (s.data.toList.take (q+1))=ZcJ (Zer (s.data.toList.take q)) s[q]:=by
 have h2:s.data.toList[q]? = some s[q]:=List.getElem?_eq_getElem (by rw [Array.length_toList];exact h)
 unfold Zer
 rw [List.take_add_one,h2,List.foldl_append]
 rfl
theorem ZhM {l:List ByteArray} {c:UInt8} {q:Nat} (h:∀ p ∈ l,p.size≤q):∀ p ∈ ZcJ l c,p.size≤q+1:=by
 intro p hp
 unfold ZcJ at hp
 split at hp
 ·rcases List.mem_append.1 hp with hp | hp
  ·have:=h p hp;omega
  ·rw [List.mem_singleton.1 hp];exact Nat.zero_le _
 ·rcases List.mem_or_eq_of_mem_set hp with hp | hp
  ·have:=h p hp;omega
  ·rw [hp,ByteArray.size_append]
   have:(⟨#[c]⟩:ByteArray).size=1:=rfl
   cases hx:l[l.length - 1]? with
   | none=>simp only [Option.getD_none];rw [this];have:(⟨#[]⟩:ByteArray).size=0:=rfl;omega
   | some x=>have:=h x (List.mem_of_getElem? hx);simp only [Option.getD_some];omega
theorem Zru (s:ByteArray) (q:Nat) (h:q<s.size):s.extract q (q+1)=⟨#[s[q]]⟩:=by
 have h2:s.data.toList[q]? = some s[q]:=List.getElem?_eq_getElem (by rw [Array.length_toList];exact h)
 refine toList_inj ?_
 rw [Lib.extract_toList,ByteArray.toList_eq]
 show _ = [s[q]]
 rw [Nat.add_sub_cancel_left,List.take_one,List.head?_drop,h2]
 rfl
set_option maxRecDepth 100000 in
set_option maxHeartbeats 2000000 in
theorem ZmU (s:ByteArray) (w:World) (hs:s.size≤1099511627776):Calls Tryz.prog 119 #[.string s] w fun e w'=>∃ v,e = .returned v∧OwnL w' w.heap.size 9 v (Zer s.data.toList)∧Below w.heap.size w w':=by
 go_enter Tryz.func119,Tryz.ntmps119
 go_wp2_with fail
 have hO:OwnL (w.alloc (Obj.cells #[Value.string { data:=#[] }] 9)) w.heap.size 9 (.slice (some ⟨w.heap.size,0,none⟩) 1 1) [(⟨#[]⟩:ByteArray)]:=
  OwnL.built [[.string ⟨#[]⟩]] _ (Nat.le_refl _) rfl rfl (by decide) (fun i x cs hx hcs=>by
   rcases i with _ | i
   ·simp at hx hcs;subst hx;subst hcs;exact rfl
   ·simp at hx) rfl
 have HO:=Lib.hid hO
 clear hO
 go_loopw [3,4] (fun l i wr=>∃ q g n c:Nat,q≤s.size∧i = .int .i64 q∧l = .slice (some ⟨g,0,none⟩) n c∧n=(Zer (s.data.toList.take q)).length∧1≤n∧n≤q+1∧Hid (∀ p ∈ Zer (s.data.toList.take q),p.size≤q)∧Below w.heap.size w wr∧OwnL wr w.heap.size 9 (.slice (some ⟨g,0,none⟩) n c) (Zer (s.data.toList.take q))) (fun _ i _=>s.size - (intOf i).toNat)
 case atStart=>exact ⟨0,w.heap.size,1,1,by omega,rfl,rfl,rfl,by omega,by omega,Lib.hid (fun p hp=>by rw [List.mem_singleton.1 hp];exact Nat.zero_le _),Below.al (Below.refl _ _) _,HO.out⟩
 case round=>
  obtain ⟨q,g,n,c,hq,rfl,rfl,hn,h1,h2,HSZ,hbw,hown⟩:=hrel
  have HN:=Lib.hid hn
  have HQ:=Lib.hid hbw
  have HW:=Lib.hid hown
  clear hn hbw hown HO
  by_cases hlt:q<s.size
  ·have b1:(0:Int)≤q:=by omega
   have b2:(q:Int)<(s.size:Int):=by omega
   have HP:=Lib.hid (Zn7 s q hlt)
   generalize Zer (s.data.toList.take q)=L at *
   by_cases h47:(s[q].toNat:Int)=47
   ·have hl:=HW.out
    have b3:n+1≤maxLen:=by unfold maxLen;omega
    have b4:(n+1) * 16≤140737488355328:=by omega
    have B3:Hid (L.length+1≤maxLen):=Lib.hid (by rw [← HN.out];exact b3)
    have B4:Hid ((L.length+1) * 16≤140737488355328):=Lib.hid (by rw [← HN.out];exact b4)
    have hg:w.heap.size≤wr.heap.size:=HQ.out.size
    clear hl b3 b4
    go_wp2_with (at_builtin;go_must (refine Zkb rfl _ _ 37 rfl okS (by decide) (B:=w.heap.size) (v:=.slice (some ⟨g,0,none⟩) n c) (xs:=L) rfl (HW.out.keep (Below.al (Below.refl _ _) _)) (ys:=[(⟨#[]⟩:ByteArray)]) rfl (SlR.made (fun x:ByteArray=>[.string x]) (fun _ _ _=>rfl) _ _ (by simp) rfl (by simp) rfl) (fun _ _ _ h=>h) B3.out B4.out (by simp;omega) ?_);intro v' w' hown hg2 hv')
    obtain ⟨A,c',rfl,_,hA⟩:=hown.sl
    obtain ⟨g',rfl,_,_⟩:=hA (by simp)
    have hst:ZcJ L s[q]=L ++ [⟨#[]⟩]:=by unfold ZcJ;rw [if_pos (by omega)]
    refine ⟨⟨q+1,g',_,c',by omega,rfl,rfl,?_,?_,?_,?_,?_,?_⟩,by simp [intOf];omega⟩
    ·rw [HP.out,hst]
    ·simp
    ·simp only [List.length_append,List.length_singleton];rw [← HN.out];omega
    ·rw [HP.out];exact Lib.hid (ZhM HSZ.out)
    ·exact (HQ.out.alloc hg _).grown hg2 (by simp;omega) (fun j hj=>by cases hj;exact HW.out.ge rfl)
    ·rw [HP.out,hst];exact hown
   ·obtain ⟨x,hx⟩:∃ x,L[n - 1]? = some x:=⟨_,List.getElem?_eq_getElem (by have:=HN.out;omega)⟩
    have c0:=HW.out.cellS HN.out hx
    have f0:=HW.out.frozenS HN.out (n - 1)
    have HX:=Lib.hid hx
    have hxs:=HSZ.out x (List.mem_of_getElem? hx)
    clear hx
    have hext:(s.extract q (q+1)).size=1:=by rw [Zru s q hlt];rfl
    have b4:x.size+(s.extract q (q+1)).size≤9223372036854775807:=by rw [hext];omega
    have b5:x.size+(min (q+1) s.size - q)≤9223372036854775807:=by omega
    clear hext hxs
    have b3:(1:Int)≤n:=by omega
    obtain ⟨m,rfl⟩:∃ m:Nat,n=m+1:=⟨n - 1,by omega⟩
    simp only [Nat.add_sub_cancel] at c0 f0 HX
    go_upto_region 7 with fail
    go_region
    go_wp2
    refine ⟨⟨q+1,g,m+1,c,by omega,rfl,rfl,?_,by omega,by omega,?_,?_,?_⟩,by simp [intOf];omega⟩
    ·rw [HP.out];unfold ZcJ;rw [if_neg (by omega),List.length_set];exact HN.out
    ·rw [HP.out];exact Lib.hid (ZhM HSZ.out)
    ·have hge:w.heap.size≤g:=HW.out.ge rfl
     have hbs:Below w.heap.size w (wr.setCell ⟨g,m,none⟩ (.string (x++s.extract q (q+1)))):=HQ.out.setCell hge _
     exact Below.drew hbs
    ·refine OwnL.keep (Below.refl _ _).drew ?_
     have hst:=HW.out.setS HN.out m (x++s.extract q (q+1))
     rw [HP.out]
     unfold ZcJ
     rw [if_neg (by omega),← HN.out,Nat.add_sub_cancel,HX.out,Option.getD_some,← Zru s q hlt]
     exact hst
  ·have b2:(s.size:Int)≤(q:Int):=by omega
   obtain rfl:q=s.size:=by omega
   rw [List.take_of_length_le (by rw [Array.length_toList];exact Nat.le_refl _)] at HW
   go_wp2
   go_ret
   exact ⟨_,rfl,HW.out,HQ.out⟩
def ZfM:List UInt8→List UInt8→List (List UInt8)
 | a,[]=>[a]
 | a,c::r=>if c.toNat=47 then a::ZfM [] r else ZfM (a ++ [c]) r
theorem ZfN:∀ (s a r:List UInt8),(∀ k:Nat,s[k]?≠some 47)→ZfM a (s++r)=ZfM (a++s) r
 | [],a,r,_=>by simp
 | c::s,a,r,h=>by
   have h0:c.toNat≠47:=fun e=>h 0 (by simp;exact UInt8.toNat_inj.1 e)
   rw [List.cons_append,ZfM,if_neg h0,ZfN s (a ++ [c]) r (fun k=>by have:=h (k+1);simpa using this),List.append_assoc]
   rfl
theorem Zlo (l:List ByteArray) (p:ByteArray) (c:UInt8):ZcJ (l ++ [p]) c=if c.toNat=47 then l ++ [p] ++ [⟨#[]⟩] else l ++ [p++⟨#[c]⟩]:=by
 unfold ZcJ
 by_cases h:c.toNat=47
 ·rw [if_pos h,if_pos h]
 ·rw [if_neg h,if_neg h]
  have hl:(l ++ [p]).length - 1=l.length:=by simp
  rw [hl,List.getElem?_append_right (Nat.le_refl _),Nat.sub_self,List.set_append_right _ _ (Nat.le_refl _),Nat.sub_self]
  rfl
theorem Zsh (p:ByteArray) (c:UInt8):(p++⟨#[c]⟩:ByteArray).data.toList=p.data.toList ++ [c]:=by
 simp
theorem ZgZ:∀ (s:List UInt8) (l:List ByteArray) (p:ByteArray),(s.foldl ZcJ (l ++ [p])).map (·.data.toList)=l.map (·.data.toList)++ZfM p.data.toList s
 | [],l,p=>by simp [ZfM]
 | c::r,l,p=>by
   rw [List.foldl_cons,Zlo,ZfM]
   by_cases h:c.toNat=47
   ·rw [if_pos h,if_pos h,ZgZ r (l ++ [p]) ⟨#[]⟩]
    simp
   ·rw [if_neg h,if_neg h,ZgZ r l _,Zsh]
theorem Zns (s:List UInt8):(Zer s).map (·.data.toList)=ZfM [] s:=by
 have:=ZgZ s [] ⟨#[]⟩
 simpa [Zer] using this
theorem ZkE:∀ (k:Nat) (s:ByteArray),Lib.countB s ⟨#[47]⟩=k→(Lib.splitB ⟨#[47]⟩ 0 k s).map (·.data.toList)=ZfM [] s.data.toList
 | k,s,hk=>by
   have h1:Lib.indexB s ⟨#[47]⟩=Lib.indexByte s.data.toList 47:=Lib.index_one _ _
   rcases Lib.indexB_cases s ⟨#[47]⟩ with hi | ⟨i,hi,hlt⟩
   ·rw [Lib.splitB_miss _ _ _ _ hi]
    have:=ZfN s.data.toList [] [] (Lib.indexByte_none (h1.symm.trans hi))
    rw [List.append_nil] at this
    rw [this]
    rfl
   ·have hc:=Lib.countB_hit s ⟨#[47]⟩ i (by decide) hi
    obtain ⟨k',rfl⟩:∃ k',k=k'+1:=⟨k - 1,by omega⟩
    rw [Lib.splitB_hit _ _ _ _ i hi,List.map_cons,ZkE k' _ (by omega)]
    have he:(⟨#[47]⟩:ByteArray).size=1:=rfl
    rw [he,Lib.extract_to_end,Lib.extract_data]
    obtain ⟨h2,h3⟩:=Lib.indexByte_some (h1.symm.trans hi)
    have hil:=(List.getElem?_eq_some_iff.1 h2).1
    have hsplit:s.data.toList=s.data.toList.take i++(47::s.data.toList.drop (i+1)):=by
     have h4:s.data.toList.drop i=47::s.data.toList.drop (i+1):=by
      rw [List.drop_eq_getElem_cons hil]
      rw [List.getElem?_eq_getElem hil] at h2
      rw [Option.some.inj h2]
     rw [← h4,List.take_append_drop]
    conv=>rhs;rw [hsplit]
    rw [ZfN _ [] _ (fun k hk=>by
     rw [List.getElem?_take] at hk
     split at hk
     ·rename_i hki;exact h3 k hki hk
     ·cases hk),ZfM,if_pos (by decide)]
    simp
theorem Zjk (s:ByteArray) (f:List UInt8→Bool):(Zer s.data.toList).all (fun p=>f p.data.toList)=(Lib.splitB ⟨#[47]⟩ 0 (Lib.countB s ⟨#[47]⟩) s).all (fun p=>f p.data.toList):=by
 have h1:=congrArg (·.all f) (Zns s.data.toList)
 have h2:=congrArg (·.all f) (ZkE _ s rfl)
 simp only [List.all_map] at h1 h2
 exact h1.trans h2.symm
theorem Zph (p:ByteArray):(Zia p).data.toList=Lib.trimSuffix p.data.toList [32]:=by
 have hl:p.data.toList.length=p.size:=Array.length_toList
 unfold Zia Lib.trimSuffix Lib.hasSuffix
 by_cases h:0<p.size
 ·have hd:p.data.toList.drop (p.data.toList.length - [(32:UInt8)].length) = [p[p.size - 1]]:=by
   rw [hl,List.length_singleton,List.drop_eq_getElem_cons (by omega),List.drop_eq_nil_of_le (by omega)]
   rfl
  have hap:=List.take_append_drop (p.data.toList.length - [(32:UInt8)].length) p.data.toList
  rw [hd] at hap
  rw [dif_pos h]
  by_cases h2:(p[p.size - 1]'(by omega)).toNat=32
  ·have h3:p[p.size - 1]=(32:UInt8):=UInt8.toNat_inj.1 h2
   rw [h3] at hap
   rw [if_pos h2,if_pos (List.isSuffixOf_iff_suffix.2 ⟨_,hap⟩),Lib.extract_data,hl]
   simp
  ·have h3:p[p.size - 1]≠(32:UInt8):=fun e=>h2 (by rw [e];rfl)
   rw [if_neg h2,if_neg]
   intro hs
   obtain ⟨t,ht⟩:=List.isSuffixOf_iff_suffix.1 hs
   rw [← hap] at ht
   have:=(List.append_inj' ht rfl).2
   simp at this
   exact h3 this.symm
 ·have h0:p.data.toList = []:=List.eq_nil_of_length_eq_zero (by omega)
  rw [dif_neg h,h0]
  rfl
theorem Zlp (s:ByteArray):ZiG s=match ZbX s.data.toList with
  | some (n,_)=>(n,Lib.index s.data.toList [58])
  | none=>(0,0):=by
 unfold ZiG ZbX Lib.cut
 by_cases h:Lib.index s.data.toList [58]<0
 ·rw [if_pos h,if_neg (show ¬ 0≤Lib.index s.data.toList [58] by omega)]
  simp
 ·rw [if_neg h,if_pos (show 0≤Lib.index s.data.toList [58] by omega)]
  have he:(Zia (s.extract 0 (Lib.index s.data.toList [58]).toNat)).data.toList=Lib.trimSuffix (s.data.toList.take (Lib.index s.data.toList [58]).toNat) [32]:=by
   rw [Zph,Lib.extract_data]
   simp
  rw [he]
  by_cases h2:ZaW (Zan (Lib.trimSuffix (s.data.toList.take (Lib.index s.data.toList [58]).toNat) [32]))=0
  ·rw [if_pos h2,if_neg (by simp [h2])]
  ·rw [if_neg h2,if_pos ⟨rfl,h2⟩]
theorem Zmg {s:List UInt8} {n:Int} {r:List UInt8} (h:ZbX s=some (n,r)):0≤Lib.index s [58]∧r=s.drop ((Lib.index s [58]).toNat+1)∧n=ZaW (Zan (Lib.trimSuffix (s.take (Lib.index s [58]).toNat) [32]))∧n≠0:=by
 unfold ZbX Lib.cut at h
 by_cases h0:0≤Lib.index s [58]
 ·rw [if_pos h0] at h
  simp only [true_and,List.length_singleton] at h
  split at h
  ·rename_i h2
   simp only [Option.some.injEq,Prod.mk.injEq] at h
   exact ⟨h0,h.2.symm,h.1.symm,h.1 ▸ h2⟩
  ·cases h
 ·rw [if_neg h0] at h
  simp at h
theorem Znt (s:ByteArray):decide ((ZiG s).1=0)=decide (ZbX s.data.toList=none):=by
 rw [Zlp]
 cases h:ZbX s.data.toList with
 | none=>rfl
 | some x=>
   obtain ⟨n,r⟩:=x
   have:=(Zmg h).2.2.2
   simp [this]
theorem Zjx (s:ByteArray) (q:Nat) (hq:q<s.size) (w:World):Calls Tryz.prog 118 #[.string ⟨#[60,62,91,93,123,125,124,35,95]⟩,.string (s.extract q (q+1)),.int .i64 0] w fun e w'=>e = .returned (.int .i64 (Lib.indexByte Zf2 s[q]))∧w=w':=by
 rw [Zru s q hq]
 refine (Ziz _ _ w (by show 9+1≤_;omega)).mono ?_
 rintro e w' ⟨rfl,rfl⟩
 refine ⟨?_,rfl⟩
 rw [← Lib.index_one]
 rfl
set_option maxRecDepth 100000 in
set_option maxHeartbeats 4000000 in
theorem Zmy (t:Title) (w:World):Calls Tryz.prog 68 #[.agg #[.int .i64 t.space,.string t.name]] w fun e w'=>e = .returned (.bool t.valid)∧Below w.heap.size w w':=by
 obtain ⟨sp,s⟩:=t
 by_cases h:0≤sp∧sp<6∧1≤s.size∧s.size≤100
 case neg=>
  have hv:Title.valid ⟨sp,s⟩=false:=by
   cases hV:Title.valid ⟨sp,s⟩ with
   | false=>rfl
   | true=>
     simp only [Title.valid,Bool.and_eq_true,decide_eq_true_eq] at hV
     obtain ⟨⟨⟨⟨⟨⟨⟨ha,hb⟩,hc⟩,hd⟩,hcl⟩,_⟩,_⟩,_⟩:=hV
     exact absurd ⟨ha,hb,hc,hd⟩ h
  have HV:=Lib.hid hv
  have h':sp<0∨6≤sp∨(s.size:Int)<1∨(100:Int)<s.size:=by omega
  clear h hv
  go_enter Tryz.func68,Tryz.ntmps68
  go_wp2
  all_goals
   first
   | (exfalso;omega)
   | (go_ret
      exact ⟨ZaI HV.out.symm,Below.al (Below.refl _ _) _⟩)
 obtain ⟨h1,h2,h3,h4⟩:=h
 have hs1:(1:Int)≤s.size:=by omega
 have hs2:(s.size:Int)≤100:=by omega
 have HSP:Hid (Title.valid ⟨sp,s⟩=(Zb4 (-1) s.data.toList&&((Zer s.data.toList).all (fun p=>Zdk p.data.toList)&&(Zf3 (s[0]'(by omega)).toNat&&(decide (sp≠0)||decide ((ZiG s).1=0)))))):=Lib.hid (by
  rw [Zjk s Zdk,Znt,← Zrl s (by omega)]
  simp [Title.valid,h1,h2,h3,h4,Bool.and_assoc])
 go_enter Tryz.func68,Tryz.ntmps68
 go_wp2_with fail
 all_goals try (exfalso;omega)
 generalize hw1:w.alloc _=w1
 have c0_0:w1.cell? ⟨w.heap.size,0,none⟩=some (.int .i64 sp):=by subst hw1;go_simp
 have c0_1:w1.cell? ⟨w.heap.size,1,none⟩=some (.string s):=by subst hw1;go_simp
 have HB:Hid (Below w.heap.size w w1):=by subst hw1;exact Below.al (Below.refl _ _) _
 clear hw1
 have HF:Hid (∀ W,Below w1.heap.size w1 W→W.cell? ⟨w.heap.size,0,none⟩=some (.int .i64 sp)∧W.cell? ⟨w.heap.size,1,none⟩=some (.string s)):=fun W h=>⟨re1 h (Zbo c0_0) c0_0,re1 h (Zbo c0_1) c0_1⟩
 go_loopw [4] (fun i wr=>∃ q:Nat,q≤s.size∧i = .int .i64 q∧wr=w1∧Hid (Zb4 (-1) s.data.toList=Zb4 (Zfy s q) (s.data.toList.drop q))) (fun i _=>s.size - (intOf i).toNat)
 case atStart=>exact ⟨0,Nat.zero_le _,rfl,rfl,rfl⟩
 case round=>
  obtain ⟨q,hq,rfl,rfl,hC⟩:=hrel
  by_cases hlt:q<s.size
  ·have HD:Hid (s.data.toList.drop q=s[q]::s.data.toList.drop (q+1)):=List.drop_eq_getElem_cons (by rw [Array.length_toList];exact hlt)
   have HP':Hid (Zfy s (q+1)=((s[q]'hlt).toNat:Int)):=by unfold Zfy;rw [dif_pos ⟨Nat.succ_pos q,hlt⟩];rfl
   have b1:(0:Int)≤q:=by omega
   have b2:(q:Int)<(s.size:Int):=by omega
   by_cases h0:q=0
   ·subst h0
    have HP:Hid (Zfy s 0 = -1):=rfl
    go_wp2_with (go_at_call 118;refine (Zjx s 0 hlt _).mono ?_;rintro e w' ⟨rfl,rfl⟩)
    all_goals (try simp only [beq_iff_eq,beq_eq_false_iff_ne,ne_eq] at *)
    all_goals first
     | (exfalso;omega)
     | (go_ret;refine ⟨ZaI ?_,HB.out⟩;rw [HSP.out,hC.out,HD.out,Zfj (by rw [HP.out];omega)];rfl)
     | (go_roundw;(case rel=>(refine ⟨1,by omega,rfl,by trivial,?_⟩;rw [hC.out,HD.out,ZhG (by rw [HP.out];omega)];exact congrArg (fun p=>Zb4 p (s.data.toList.drop (0+1))) HP'.out.symm));(case measure=>(simp [intOf];omega)))
   ·have HP:Hid (Zfy s q=((s[q - 1]'(by omega)).toNat:Int)):=by unfold Zfy;rw [dif_pos ⟨by omega,by omega⟩];exact Lib.hid rfl
    have hq1:0<q:=by omega
    have b3:(1:Int)≤q:=by omega
    clear h0
    go_wp2_with (go_at_call 118;refine (Zjx s q hlt _).mono ?_;rintro e w' ⟨rfl,rfl⟩)
    all_goals (try simp only [beq_iff_eq,beq_eq_false_iff_ne,ne_eq] at *)
    all_goals first
     | (exfalso;omega)
     | (go_ret;refine ⟨ZaI ?_,HB.out⟩;rw [HSP.out,hC.out,HD.out,Zfj (by rw [HP.out];omega)];rfl)
     | (go_roundw;(case rel=>(refine ⟨q+1,by omega,by go_num,by trivial,?_⟩;rw [hC.out,HD.out,ZhG (by rw [HP.out];omega)];exact congrArg (fun p=>Zb4 p (s.data.toList.drop (q+1))) HP'.out.symm));(case measure=>(simp [intOf];omega)))
  ·obtain rfl:q=s.size:=by omega
   have hz:s.data.toList.drop s.size = []:=List.drop_eq_nil_of_le (by rw [Array.length_toList];exact Nat.le_refl _)
   have HZ:Hid (Zb4 (-1) s.data.toList=true):=by rw [hC.out,hz];exact rfl
   rw [HZ.out,Bool.true_and] at HSP
   clear hz hC HZ
   go_wp2_with fail
   refine (ZmU s _ (by omega)).mono ?_
   rintro e w2 ⟨v,rfl,hown,hb2⟩
   have hps:Hid (∀ p ∈ Zer s.data.toList,p.size≤100):=Lib.hid (by
    have hall:=Zjk s (fun l=>decide (l.length≤100))
    have h5:(Lib.splitB ⟨#[47]⟩ 0 (Lib.countB s ⟨#[47]⟩) s).all (fun p=>decide (p.data.toList.length≤100))=true:=by
     rw [List.all_eq_true]
     intro p hp
     have:=Zg7 ⟨#[47]⟩ _ s p hp
     rw [Array.length_toList]
     exact decide_eq_true (Nat.le_trans this h4)
    rw [h5,List.all_eq_true] at hall
    intro p hp
    have:=of_decide_eq_true (hall p hp)
    rw [Array.length_toList] at this
    exact this)
   generalize Zer s.data.toList=ps at *
   obtain ⟨A,c,rfl,hS,_⟩:=hown.sl
   have c1:w2.cell? ⟨w.heap.size,0,none⟩=some (.int .i64 sp):=re1 hb2 (Zbo c0_0) c0_0
   have HB2:=Lib.hid (Below.tr HB.out hb2)
   have HS:=Lib.hid hS
   have hle:=hS.le
   have hle2:(ps.length:Int)≤9223372036854775807:=by omega
   clear hown hb2 hS c0_0 c0_1 HF HB
   go_wp2_with fail
   go_loopw [6] (fun i wr=>∃ q:Nat,q≤ps.length∧i = .int .i64 q∧Below w2.heap.size w2 wr∧Hid (ps.all (fun p=>Zdk p.data.toList)=(ps.drop q).all (fun p=>Zdk p.data.toList))) (fun i _=>ps.length - (intOf i).toNat)
   case atStart=>exact ⟨0,by omega,rfl,Below.refl _ _,rfl⟩
   case round=>
    obtain ⟨q,hq,rfl,hbw,hA⟩:=hrel
    have HW:=Lib.hid hbw
    clear hbw
    by_cases hlt:q<ps.length
    ·have b1:(0:Int)≤q:=by omega
     have b2:(q:Int)<(ps.length:Int):=by omega
     obtain ⟨b,off,x,cs,hA,hbl,hx,hd,hR,hc⟩:=(HS.out.mono HW.out).elem hlt
     obtain rfl:=hA
     have d0:wr.cell? ⟨b,off+q,none⟩=some (.string x):=by subst hR;simpa using hc 0 _ rfl
     have HD:=Lib.hid hd
     have HX:=Lib.hid hx
     clear hx hd hR hc
     have hxs:=hps.out x (List.mem_of_getElem? HX.out)
     by_cases hx0:x.size=0
     ·have hx1:x.toList = []:=by rw [ByteArray.toList_eq];exact List.eq_nil_of_length_eq_zero (by rw [Array.length_toList];exact hx0)
      have HP:Hid (Zdk x.data.toList=false):=Lib.hid (by rw [← ByteArray.toList_eq,hx1];rfl)
      clear hx0
      go_wp2_with fail
      go_quiet (fail)
      go_wp2
      go_ret
      exact ⟨ZaI (by rw [HSP.out,hA.out,HD.out,List.all_cons,HP.out];rfl),Below.tr HB2.out (Below.dn HW.out _)⟩
     ·have hx1:¬ x.toList = []:=fun e=>by rw [ByteArray.toList_eq] at e;exact hx0 (by have:=congrArg List.length e;rw [Array.length_toList] at this;exact this)
      have hx2:0<x.size:=by omega
      have hx3:(0:Int)≤(x.size:Int) - 1:=by omega
      have hx4:(0:Int)<(x.size:Int):=by omega
      have hx5:(1:Int)≤(x.size:Int):=by omega
      have hx9:(x.size:Int) - 1<(x.size:Int):=by omega
      have hx6:x.toList.isEmpty=false:=by rw [List.isEmpty_eq_false_iff];exact hx1
      have hx7:(x.toList == [])=false:=beq_eq_false_iff_ne.2 hx1
      have hx8:decide (x.toList = [])=false:=decide_eq_false hx1
      have HP:=Lib.hid (ZkU x hx2)
      clear hx0
      by_cases hf:(x[0].toNat:Int)=32
      ·have HP2:Hid (Zdk x.data.toList=false):=Lib.hid (by rw [HP.out,hf];rfl)
       go_wp2_with fail
       go_quiet (fail)
       go_wp2
       go_ret
       exact ⟨ZaI (by rw [HSP.out,hA.out,HD.out,List.all_cons,HP2.out];rfl),Below.tr HB2.out (Below.dn HW.out _)⟩
      ·by_cases hl:((x[x.size - 1]'(by omega)).toNat:Int)=32
       ·have HP2:Hid (Zdk x.data.toList=false):=Lib.hid (by rw [HP.out,hl];simp)
        have hf:((x[0].toNat:Int) == 32)=false:=beq_eq_false_iff_ne.2 hf
        go_wp2_with fail
        go_quiet (fail)
        go_wp2
        go_ret
        exact ⟨ZaI (by rw [HSP.out,hA.out,HD.out,List.all_cons,HP2.out];rfl),Below.tr HB2.out (Below.dn HW.out _)⟩
       ·have HP2:Hid (Zdk x.data.toList=true):=Lib.hid (by rw [HP.out,beq_eq_false_iff_ne.2 hf,beq_eq_false_iff_ne.2 hl];rfl)
        have hf:((x[0].toNat:Int) == 32)=false:=beq_eq_false_iff_ne.2 hf
        have hl:(((x[x.size - 1]'(by omega)).toNat:Int) == 32)=false:=beq_eq_false_iff_ne.2 hl
        go_wp2_with fail
        go_quiet (fail)
        go_wp2
        go_roundw
        case rel=>exact ⟨q+1,by omega,by go_num,Below.dn HW.out _,Lib.hid (by rw [hA.out,HD.out,List.all_cons,HP2.out];rfl)⟩
        case measure=>simp [intOf];omega
    ·obtain rfl:q=ps.length:=by omega
     have hz:ps.all (fun p=>Zdk p.data.toList)=true:=by
      rw [hA.out,List.drop_eq_nil_of_le (Nat.le_refl _)];rfl
     rw [hz,Bool.true_and] at HSP
     have c2:wr.cell? ⟨w.heap.size,0,none⟩=some (.int .i64 sp):=re1 HW.out (Zbo c1) c1
     clear hz hA c1 hps
     have hs0:(0:Int)<s.size:=by omega
     go_wp2_with (go_at_call 120;refine (ZjN s _ (by omega)).mono ?_;rintro e w5 ⟨rfl,hb5⟩;have c3:=re1 hb5 (Zbo c2) c2)
     all_goals
      go_ret
      refine ⟨ZaI ?_,?_⟩
      ·rw [HSP.out]
       simp only [beq_iff_eq,beq_eq_false_iff_ne,ne_eq] at *
       first
        | (rw [Zg8 (by omega)];rfl)
        | (rw [Zg9 (by omega) (by omega)];rfl)
        | (rw [Zfk (by omega) (by omega)];simp_all;done)
        | (rw [Zfk (by omega) (by omega)];simp_all;rfl)
      ·first | exact Below.tr (Below.tr HB2.out HW.out) (by assumption) | exact Below.tr HB2.out HW.out
def ZtH (L:List ByteArray) (s:ByteArray):Bool:=L.any (fun x=>decide (x=s))
theorem OwnL.drew {α:Type} [Enc α] {w:World} {B:Nat} {E:TypeId} {v:Value} {xs:List α} (h:OwnL w B E v xs):OwnL w.drew B E v xs:=OwnL.keep (Below.refl _ _).drew h
theorem OwnL.al {α:Type} [Enc α] {w:World} {B:Nat} {E:TypeId} {v:Value} {xs:List α} (h:OwnL w B E v xs) (o:Obj):OwnL (w.alloc o) B E v xs:=OwnL.keep (Below.al (Below.refl _ _) _) h
theorem Zlb {P:Program} {α:Type} [Enc α] {ops:Array Oper} {o:Oper} {a:Act} {w:World} {K:Act→World→Prop} {Q:Exit→Act→World→Prop} {E0:Prop} (hgd:o.guard=none) (s x:Operand) (t:TypeId)
  (ho:o.op = .call { callee:=.builtin .append,args:=#[s,x],argTypes:=#[t,t] })
  {E:TypeId} {bytes:Nat} (ok:Zj9 P t E (Enc.k α) bytes) (hk0:0<Enc.k α) {B:Nat} {v:Value} {xs:List α} (hs:a.eval s=v) (hown:OwnL w B E v xs)
  {A:Option Addr} {m c:Nat} {ys:List α} {S:Nat→Prop} (hx:a.eval x = .slice A m c) (hr:SlS S w A m c ys) (hE:∀ (y:α) (cs:List Value),y ∈ ys→Enc.R S w y cs→Enc.R (fun b=>v.ownBlock≠some b) w y cs)
  (h63:xs.length+m≤maxLen) (hbytes:(xs.length+m) * bytes≤140737488355328) (hbase:B≤w.heap.size)
  (h:∀ v' w',OwnL w' B E v' (xs++ys)→w.grownBy w' v.ownBlock→(v'.ownBlock=v.ownBlock∨v'.ownBlock=some w.heap.size)→K (a.put o.dst v') w') :
  if Region.wanted o (yielded ops a.tmps)=true then Oper.wp P o a w K Q else E0:=by
 have hw:Region.wanted o (yielded ops a.tmps)=true:=by simp [Region.wanted,hgd]
 rw [if_pos hw]
 exact Zka s x t ho ok hk0 hs hown hx hr hE h63 hbytes hbase h
end Go.Proofs.YtjoneoobolnnbaaGreatDoor
