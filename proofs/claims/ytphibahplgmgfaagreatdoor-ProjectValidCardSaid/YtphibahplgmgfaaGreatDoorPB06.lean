/- The reference's words ahead of a colon. | A slice of strings that the call itself made: reading and storing an element. No program is named. | The reference's Parts: a text divided at each slash. | Plain laws: the reference's Parts and prefixed say what strings.Split and title.prefix say. | The reference's Valid. | The reference's Has, BuiltIn, exists; the program's builtIn. | append as one step of a region that draws its order. No program is named. | Ancestors, the reference's and the program's. | The library's functions at slices of strings, in the words of SlR. | A scope covers a level; the levels of a title. | Contracts in values, out of those in worlds. | Functions whose contracts are proved by hand, written as the others are. | A row of the call's own behind the library's turning of it. No program is named. -/
import Derived.Test.YtphibahplgmgfaaGreatDoorPB04
import Derived.Test.YtphibahplgmgfaaGreatDoorPB01
import Derived.Laws.OwnMore
import Derived.Lib.IndexBytes
import Derived.Deep.RegionLaw
import Derived.Test.YtphibahplgmgfaaGreatDoorPB02
import Derived.Test.YtphibahplgmgfaaGreatDoorPB03
import Derived.Test.YtphibahplgmgfaaGreatDoorPB05
import Derived.Shelf.GgSortFunc.RowK
namespace Go.Proofs.YtphibahplgmgfaaGreatDoor
open Go.RowKit
theorem refLower_u8 (c:UInt8) (w:World):Calls Tryz.prog 176 #[.int .u8 c.toNat] w fun e w'=>e = .returned (.int .u8 ((lowB c).toNat:Int))∧w=w':=by
 refine (refLower_any _ (u8_lt c).1 (u8_lt c).2 w).mono ?_
 rintro e w' ⟨rfl,rfl⟩
 exact ⟨by rw [lowI_lowB],rfl⟩
def sameL (a b:ByteArray):Bool:=decide (foldL a.data.toList=foldL b.data.toList)
theorem foldL_length (l:List UInt8):(foldL l).length=l.length:=by simp [foldL]
theorem sameL_size {a b:ByteArray} (h:a.size≠b.size):sameL a b=false:=by
 unfold sameL
 refine decide_eq_false fun e=>h ?_
 have:=congrArg List.length e
 rw [foldL_length,foldL_length,Array.length_toList,Array.length_toList] at this
 exact this
theorem sameL_no {a b:ByteArray} (j:Nat) (ha:j<a.size) (hb:j<b.size) (h:lowB a[j]≠lowB b[j]):sameL a b=false:=by
 unfold sameL
 refine decide_eq_false fun e=>h ?_
 have:=congrArg (·[j]?) e
 simp only [foldL,List.getElem?_map] at this
 rw [show a.data.toList[j]? = some a[j] from List.getElem?_eq_getElem (by rw [Array.length_toList];exact ha),show b.data.toList[j]? = some b[j] from List.getElem?_eq_getElem (by rw [Array.length_toList];exact hb)] at this
 simpa using this
theorem sameL_yes {a b:ByteArray} (hs:a.size=b.size) (h:∀ j (ha:j<a.size) (hb:j<b.size),lowB a[j]=lowB b[j]):sameL a b=true:=by
 unfold sameL
 refine decide_eq_true (List.ext_getElem ?_ fun j h1 h2=>?_)
 ·rw [foldL_length,foldL_length,Array.length_toList,Array.length_toList];exact hs
 ·rw [foldL_length,Array.length_toList] at h1 h2
  simp only [foldL,List.getElem_map]
  exact h j h1 h2
theorem lowB_ne {c d:UInt8} (h:¬ ((lowB c).toNat:Int)=(lowB d).toNat):lowB c≠lowB d:=fun e=>h (by rw [e])
theorem lowB_eq {c d:UInt8} (h:((lowB c).toNat:Int)=(lowB d).toNat):lowB c=lowB d:=UInt8.toNat_inj.1 (by omega)
set_option maxRecDepth 100000 in
set_option maxHeartbeats 2000000 in
theorem refSameLetters_any (a b:ByteArray) (w:World) (hsz:a.size≤4611686018427387904):Calls Tryz.prog 134 #[.string a,.string b] w fun e w'=>e = .returned (.bool (sameL a b))∧Below w.heap.size w w':=by
 by_cases hl:a.size=b.size
 case neg=>
  have HE:=Lib.hid (sameL_size hl)
  have h1:¬ (a.size:Int)=b.size:=by omega
  go_enter Tryz.func134,Tryz.ntmps134
  go_wp2
  all_goals first | (exfalso;omega) | (go_ret;exact ⟨ret_bool HE.out.symm,Below.refl _ _⟩)
 have HN:Hid (∀ j (ha:j<a.size) (hb:j<b.size),¬ ((lowB a[j]).toNat:Int)=(lowB b[j]).toNat→sameL a b=false):=Lib.hid fun j ha hb h=>sameL_no j ha hb (lowB_ne h)
 have HG:Hid ((∀ j (ha:j<a.size) (hb:j<b.size),((lowB a[j]).toNat:Int)=(lowB b[j]).toNat)→sameL a b=true):=Lib.hid fun h=>sameL_yes hl fun j ha hb=>lowB_eq (h j ha hb)
 have HL:=Lib.hid hl
 have hl1:(a.size:Int)=b.size:=by omega
 clear hl
 go_enter Tryz.func134,Tryz.ntmps134
 go_wp2_with fail
 clear hl1
 go_loopw [5] (fun i wr=>∃ q:Nat,q≤a.size∧i = .int .i64 q∧Below w.heap.size w wr∧Hid (∀ j (ha:j<a.size) (hb:j<b.size),j<q→((lowB a[j]).toNat:Int)=(lowB b[j]).toNat)) (fun i _=>a.size - (intOf i).toNat)
 case atStart=>exact ⟨0,by omega,rfl,Below.refl _ _,Lib.hid fun j _ _ h=>absurd h (by omega)⟩
 case round=>
  obtain ⟨q,hq,rfl,hbw,hno⟩:=hrel
  have HQ:=Lib.hid hbw
  clear hbw
  by_cases hlt:q<a.size
  ·have hlb:q<b.size:=by rw [← HL.out];exact hlt
   have HS:Hid (((lowB a[q]).toNat:Int)=(lowB b[q]).toNat→∀ j (ha:j<a.size) (hb:j<b.size),j<q+1→((lowB a[j]).toNat:Int)=(lowB b[j]).toNat):=Lib.hid fun h j hj hb hj2=>by
    by_cases e:j<q
    ·exact hno.out j hj hb e
    ·have:j=q:=by omega
     subst this;exact h
   have HN2:=Lib.hid (HN.out q hlt hlb)
   have b1:(0:Int)≤q:=by omega
   have b2:(q:Int)<(a.size:Int):=by omega
   have b3:(q:Int)<(b.size:Int):=by omega
   go_wp2_with fail
   go_quiet ((go_at_call 176;exact Calls.quiet_of_same ((refLower_u8 _ _).mono (fun e w' h=>⟨h.1,h.2.symm⟩))))
   go_wp2
   all_goals (try simp only [bne_iff_ne,bne_eq_false_iff_eq,ne_eq] at *)
   ·rename_i h
    go_ret
    exact ⟨ret_bool (HN2.out h).symm,Below.dn HQ.out _⟩
   ·rename_i h
    exact ⟨⟨q+1,by omega,by simp,Below.dn HQ.out _,Lib.hid (HS.out h)⟩,by simp [intOf];omega⟩
  ·have HE:=Lib.hid (HG.out fun j hj hb=>hno.out j hj hb (by omega))
   have b2:(a.size:Int)≤(q:Int):=by omega
   go_wp2
   all_goals first | (exfalso;omega) | (go_ret;exact ⟨ret_bool HE.out.symm,HQ.out⟩)
def spaceS (z:Int):ByteArray:=if z=1 then ⟨#[84,97,108,107]⟩ else if z=2 then ⟨#[85,115,101,114]⟩ else if z=3 then ⟨#[84,101,109,112,108,97,116,101]⟩ else if z=4 then ⟨#[67,97,116,101,103,111,114,121]⟩ else if z=5 then ⟨#[80,114,111,106,101,99,116]⟩ else ⟨#[]⟩
set_option maxRecDepth 100000 in
set_option maxHeartbeats 2000000 in
theorem refSpaceName_any (z:Int) (w:World):Calls Tryz.prog 135 #[.int .i64 z] w fun e w'=>e = .returned (.string (spaceS z))∧Below w.heap.size w w':=by
 have hz:z<0∨6≤z∨z=0∨z=1∨z=2∨z=3∨z=4∨z=5:=by omega
 have HE:Hid (z<0∨6≤z→spaceS z=⟨#[]⟩):=Lib.hid fun h=>by
  unfold spaceS
  rw [if_neg (by omega),if_neg (by omega),if_neg (by omega),if_neg (by omega),if_neg (by omega)]
 by_cases hin:0≤z∧z<6
 ·obtain ⟨h0,h6⟩:=hin
  obtain rfl | rfl | rfl | rfl | rfl | rfl:z=0∨z=1∨z=2∨z=3∨z=4∨z=5:=by omega
  all_goals
   go_enter Tryz.func135,Tryz.ntmps135
   go_wp2
   go_ret
   exact ⟨rfl,Below.al (Below.refl _ _) _⟩
 ·have HE2:=Lib.hid (HE.out (by omega))
  have hz2:z<0∨6≤z:=by omega
  clear hz hin HE
  go_enter Tryz.func135,Tryz.ntmps135
  rcases hz2 with hz2 | hz2
  all_goals
   go_wp2
  all_goals
   first
   | (exfalso;omega)
   | (go_ret
      exact ⟨by rw [HE2.out];rfl,Below.al (Below.refl _ _) _⟩)
theorem spaceS_fold (z:Int) (h1:1≤z) (h2:z<6):foldL (spaceS z).data.toList=spaceName z.toNat:=by
 obtain rfl | rfl | rfl | rfl | rfl:z=1∨z=2∨z=3∨z=4∨z=5:=by omega
 all_goals decide
def trimB (p:ByteArray):ByteArray:=if h:0<p.size then (if (p[p.size - 1]'(by omega)).toNat=32 then p.extract 0 (p.size - 1) else p) else p
theorem trimB_cut (s:ByteArray) (k:Nat) {h0:min k s.size - 1<(s.extract 0 k).size} (h:(((s.extract 0 k)[min k s.size - 1]'h0).toNat:Int)=32):trimB (s.extract 0 k)=(s.extract 0 k).extract 0 (min k s.size - 1):=by
 have hsz:(s.extract 0 k).size=min k s.size:=by simp [ByteArray.size_extract]
 unfold trimB
 rw [dif_pos (by omega),if_pos (by simp only [hsz];omega),hsz]
theorem trimB_keep (s:ByteArray) (k:Nat) {h0:min k s.size - 1<(s.extract 0 k).size} (h:¬ (((s.extract 0 k)[min k s.size - 1]'h0).toNat:Int)=32):trimB (s.extract 0 k)=s.extract 0 k:=by
 have hsz:(s.extract 0 k).size=min k s.size:=by simp [ByteArray.size_extract]
 unfold trimB
 rw [dif_pos (by omega),if_neg (by simp only [hsz];omega)]
theorem trimB_none (s:ByteArray) (k:Nat) (h:¬ 0<min k s.size):trimB (s.extract 0 k)=s.extract 0 k:=by
 have hsz:(s.extract 0 k).size=min k s.size:=by simp [ByteArray.size_extract]
 unfold trimB
 rw [dif_neg (by omega)]
def refPre (s:ByteArray):Int×Int:=
 if Lib.index s.data.toList [58]<0 then (0,0) else if spaceOf (foldL (trimB (s.extract 0 (Lib.index s.data.toList [58]).toNat)).data.toList)=0 then (0,0) else (spaceOf (foldL (trimB (s.extract 0 (Lib.index s.data.toList [58]).toNat)).data.toList),Lib.index s.data.toList [58])
theorem index_lt':∀ {s:List UInt8} {c:UInt8},0≤Lib.index s [c]→Lib.index s [c]<s.length:=by
 intro s
 induction s with
 | nil=>intro c h;exact absurd h (by simp [Lib.index])
 | cons a r ih=>
   intro c h
   by_cases h1:List.isPrefixOf [c] (a::r)=true
   ·simp only [Lib.index,h1,if_true];simp
   ·simp only [Lib.index,h1] at h ⊢
    by_cases h2:(Lib.index r [c] == -1)=true
    ·simp [h2] at h
    ·simp only [h2] at h ⊢
     have hge:0≤Lib.index r [c]:=by
      have h3:Lib.index r [c]≠-1:=fun e=>h2 (by rw [e];rfl)
      simp at h
      omega
     have:=ih hge
     simp
     omega
theorem index_lt {s:ByteArray} {c:UInt8} (h:0≤Lib.index s.data.toList [c]):Lib.index s.data.toList [c]<s.size:=by
 have:=index_lt' h
 rw [Array.length_toList] at this
 exact this
set_option maxRecDepth 100000 in
set_option maxHeartbeats 2000000 in
theorem refPrefixed_any (s:ByteArray) (w:World) (hs:s.size≤4611686018427387904):Calls Tryz.prog 99 #[.string s] w fun e w'=>e = .returned (.tuple #[.int .i64 (refPre s).1,.int .i64 (refPre s).2])∧Below w.heap.size w w':=by
 have HR:Hid (refPre s=if Lib.index s.data.toList [58]<0 then (0,0) else if spaceOf (foldL (trimB (s.extract 0 (Lib.index s.data.toList [58]).toNat)).data.toList)=0 then (0,0) else (spaceOf (foldL (trimB (s.extract 0 (Lib.index s.data.toList [58]).toNat)).data.toList),Lib.index s.data.toList [58])):=Lib.hid rfl
 have HI:Hid (0≤Lib.index s.data.toList [58]→Lib.index s.data.toList [58]<s.size):=Lib.hid index_lt
 generalize refPre s=R at *
 go_enter Tryz.func99,Tryz.ntmps99
 go_wp2_with fail
 refine (refIndex_any s ⟨#[58]⟩ _ (by show s.size+1≤_;omega)).mono ?_
 rintro e w1 ⟨rfl,rfl⟩
 rw [show (⟨#[58]⟩:ByteArray).data.toList = [58] from rfl]
 generalize Lib.index s.data.toList [58]=at0 at *
 by_cases h0:at0<0
 ·obtain rfl:=HR.out.trans (if_pos h0)
  go_wp2
  all_goals first | (exfalso;omega) | (exact bodyPost_ret (v:=.tuple #[.int .i64 0,.int .i64 0]) (by simp [results,Tryz.results99,go_sem]) rfl ⟨rfl,Below.refl _ _⟩)
 obtain ⟨k,rfl⟩:∃ k:Nat,at0=k:=⟨at0.toNat,by omega⟩
 have hk:=HI.out (by omega)
 have HR2:=Lib.hid (HR.out.trans (if_neg h0))
 clear HR HI h0
 simp only [Int.toNat_natCast] at HR2
 have b1:(0:Int)≤k:=by omega
 by_cases hp:0<min k s.size
 case neg=>
  rw [trimB_none s k (by omega)] at HR2
  go_wp2_with fail
  have hNs:Hid ((s.extract 0 k).size≤4611686018427387904):=Lib.hid (by simp only [ByteArray.size_extract];omega)
  clear hs
  go_loopw [6] (fun i wr=>∃ z:Int,1≤z∧z≤6∧i = .int .i64 z∧Below w.heap.size w wr∧Hid (∀ j:Nat,1≤j→(j:Int)<z→foldL (s.extract 0 k).data.toList≠spaceName j)) (fun i _=>6 - (intOf i).toNat)
  case atStart=>exact ⟨1,by omega,by omega,rfl,Below.refl _ _,fun j _ h=>absurd h (by omega)⟩
  case round=>
   obtain ⟨z,hz0,hz6,rfl,hbw,hno⟩:=hrel
   have HQ:=Lib.hid hbw
   clear hbw
   by_cases h6:z=6
   ·subst h6
    have hz:spaceOf (foldL (s.extract 0 k).data.toList)=0:=spaceOf_none _ fun j h1 h2=>hno.out j h1 (by omega)
    obtain rfl:=HR2.out.trans (if_pos hz)
    clear hz
    go_wp2
    exact bodyPost_ret (v:=.tuple #[.int .i64 0,.int .i64 0]) (by simp [results,Tryz.results99,go_sem]) rfl ⟨rfl,HQ.out⟩
   ·have hz7:z<6:=by omega
    have HF:=Lib.hid (spaceS_fold z hz0 hz7)
    go_wp2_with fail
    refine (refSpaceName_any z _).mono ?_
    rintro e w5 ⟨rfl,hb5⟩
    go_wp2_with fail
    refine (refSameLetters_any _ _ _ hNs.out).mono ?_
    rintro e w6 ⟨rfl,hb6⟩
    have HB6:=Lib.hid (Below.tr HQ.out (Below.tr hb5 hb6))
    clear hb5 hb6
    by_cases hsame:sameL (s.extract 0 k) (spaceS z)=true
    ·have hfl:foldL (s.extract 0 k).data.toList=spaceName z.toNat:=(of_decide_eq_true hsame).trans HF.out
     have hz:spaceOf (foldL (s.extract 0 k).data.toList)=z:=by rw [hfl,spaceOf_some z.toNat (by omega) (by omega)];omega
     have hR:=HR2.out.trans (if_neg (by rw [hz];omega))
     rw [hz] at hR
     obtain rfl:=hR
     rw [hsame]
     clear hz hfl
     go_wp2
     exact bodyPost_ret (v:=.tuple #[.int .i64 z,.int .i64 k]) (by simp [results,Tryz.results99,go_sem]) rfl ⟨rfl,HB6.out⟩
    ·have hsame:sameL (s.extract 0 k) (spaceS z)=false:=by simpa using hsame
     have hfl:foldL (s.extract 0 k).data.toList≠spaceName z.toNat:=fun e=>of_decide_eq_false hsame (e.trans HF.out.symm)
     have HN:=Lib.hid hfl
     rw [hsame]
     clear hfl
     go_wp2
     go_roundw
     case rel=>
      refine ⟨z+1,by omega,by omega,rfl,HB6.out,fun j h1 h2=>?_⟩
      by_cases e:(j:Int)<z
      ·exact hno.out j h1 e
      ·have:j=z.toNat:=by omega
       subst this;exact HN.out
     case measure=>simp [intOf];omega
 have hq:min k s.size - 1<(s.extract 0 k).size:=by simp only [ByteArray.size_extract];omega
 have b3:(1:Int)≤(min k s.size:Nat):=by omega
 by_cases h:(((s.extract 0 k)[min k s.size - 1]'hq).toNat:Int)=32
 ·rw [trimB_cut s k h] at HR2
  go_wp2_with fail
  clear h b3 hp
  have hNs:Hid (((s.extract 0 k).extract 0 (min k s.size - 1)).size≤4611686018427387904):=Lib.hid (by simp only [ByteArray.size_extract];omega)
  clear hs
  go_loopw [6] (fun i wr=>∃ z:Int,1≤z∧z≤6∧i = .int .i64 z∧Below w.heap.size w wr∧Hid (∀ j:Nat,1≤j→(j:Int)<z→foldL ((s.extract 0 k).extract 0 (min k s.size - 1)).data.toList≠spaceName j)) (fun i _=>6 - (intOf i).toNat)
  case atStart=>exact ⟨1,by omega,by omega,rfl,Below.refl _ _,fun j _ h=>absurd h (by omega)⟩
  case round=>
   obtain ⟨z,hz0,hz6,rfl,hbw,hno⟩:=hrel
   have HQ:=Lib.hid hbw
   clear hbw
   by_cases h6:z=6
   ·subst h6
    have hz:spaceOf (foldL ((s.extract 0 k).extract 0 (min k s.size - 1)).data.toList)=0:=spaceOf_none _ fun j h1 h2=>hno.out j h1 (by omega)
    obtain rfl:=HR2.out.trans (if_pos hz)
    clear hz
    go_wp2
    exact bodyPost_ret (v:=.tuple #[.int .i64 0,.int .i64 0]) (by simp [results,Tryz.results99,go_sem]) rfl ⟨rfl,HQ.out⟩
   ·have hz7:z<6:=by omega
    have HF:=Lib.hid (spaceS_fold z hz0 hz7)
    go_wp2_with fail
    refine (refSpaceName_any z _).mono ?_
    rintro e w5 ⟨rfl,hb5⟩
    go_wp2_with fail
    refine (refSameLetters_any _ _ _ hNs.out).mono ?_
    rintro e w6 ⟨rfl,hb6⟩
    have HB6:=Lib.hid (Below.tr HQ.out (Below.tr hb5 hb6))
    clear hb5 hb6
    by_cases hsame:sameL ((s.extract 0 k).extract 0 (min k s.size - 1)) (spaceS z)=true
    ·have hfl:foldL ((s.extract 0 k).extract 0 (min k s.size - 1)).data.toList=spaceName z.toNat:=(of_decide_eq_true hsame).trans HF.out
     have hz:spaceOf (foldL ((s.extract 0 k).extract 0 (min k s.size - 1)).data.toList)=z:=by rw [hfl,spaceOf_some z.toNat (by omega) (by omega)];omega
     have hR:=HR2.out.trans (if_neg (by rw [hz];omega))
     rw [hz] at hR
     obtain rfl:=hR
     rw [hsame]
     clear hz hfl
     go_wp2
     exact bodyPost_ret (v:=.tuple #[.int .i64 z,.int .i64 k]) (by simp [results,Tryz.results99,go_sem]) rfl ⟨rfl,HB6.out⟩
    ·have hsame:sameL ((s.extract 0 k).extract 0 (min k s.size - 1)) (spaceS z)=false:=by simpa using hsame
     have hfl:foldL ((s.extract 0 k).extract 0 (min k s.size - 1)).data.toList≠spaceName z.toNat:=fun e=>of_decide_eq_false hsame (e.trans HF.out.symm)
     have HN:=Lib.hid hfl
     rw [hsame]
     clear hfl
     go_wp2
     go_roundw
     case rel=>
      refine ⟨z+1,by omega,by omega,rfl,HB6.out,fun j h1 h2=>?_⟩
      by_cases e:(j:Int)<z
      ·exact hno.out j h1 e
      ·have:j=z.toNat:=by omega
       subst this;exact HN.out
     case measure=>simp [intOf];omega
 ·rw [trimB_keep s k h] at HR2
  have h2:((((s.extract 0 k)[min k s.size - 1]'hq).toNat:Int) == 32)=false:=beq_eq_false_iff_ne.2 h
  clear h
  go_wp2_with fail
  clear h2 hp
  have hNs:Hid ((s.extract 0 k).size≤4611686018427387904):=Lib.hid (by simp only [ByteArray.size_extract];omega)
  clear hs
  go_loopw [6] (fun i wr=>∃ z:Int,1≤z∧z≤6∧i = .int .i64 z∧Below w.heap.size w wr∧Hid (∀ j:Nat,1≤j→(j:Int)<z→foldL (s.extract 0 k).data.toList≠spaceName j)) (fun i _=>6 - (intOf i).toNat)
  case atStart=>exact ⟨1,by omega,by omega,rfl,Below.refl _ _,fun j _ h=>absurd h (by omega)⟩
  case round=>
   obtain ⟨z,hz0,hz6,rfl,hbw,hno⟩:=hrel
   have HQ:=Lib.hid hbw
   clear hbw
   by_cases h6:z=6
   ·subst h6
    have hz:spaceOf (foldL (s.extract 0 k).data.toList)=0:=spaceOf_none _ fun j h1 h2=>hno.out j h1 (by omega)
    obtain rfl:=HR2.out.trans (if_pos hz)
    clear hz
    go_wp2
    exact bodyPost_ret (v:=.tuple #[.int .i64 0,.int .i64 0]) (by simp [results,Tryz.results99,go_sem]) rfl ⟨rfl,HQ.out⟩
   ·have hz7:z<6:=by omega
    have HF:=Lib.hid (spaceS_fold z hz0 hz7)
    go_wp2_with fail
    refine (refSpaceName_any z _).mono ?_
    rintro e w5 ⟨rfl,hb5⟩
    go_wp2_with fail
    refine (refSameLetters_any _ _ _ hNs.out).mono ?_
    rintro e w6 ⟨rfl,hb6⟩
    have HB6:=Lib.hid (Below.tr HQ.out (Below.tr hb5 hb6))
    clear hb5 hb6
    by_cases hsame:sameL (s.extract 0 k) (spaceS z)=true
    ·have hfl:foldL (s.extract 0 k).data.toList=spaceName z.toNat:=(of_decide_eq_true hsame).trans HF.out
     have hz:spaceOf (foldL (s.extract 0 k).data.toList)=z:=by rw [hfl,spaceOf_some z.toNat (by omega) (by omega)];omega
     have hR:=HR2.out.trans (if_neg (by rw [hz];omega))
     rw [hz] at hR
     obtain rfl:=hR
     rw [hsame]
     clear hz hfl
     go_wp2
     exact bodyPost_ret (v:=.tuple #[.int .i64 z,.int .i64 k]) (by simp [results,Tryz.results99,go_sem]) rfl ⟨rfl,HB6.out⟩
    ·have hsame:sameL (s.extract 0 k) (spaceS z)=false:=by simpa using hsame
     have hfl:foldL (s.extract 0 k).data.toList≠spaceName z.toNat:=fun e=>of_decide_eq_false hsame (e.trans HF.out.symm)
     have HN:=Lib.hid hfl
     rw [hsame]
     clear hfl
     go_wp2
     go_roundw
     case rel=>
      refine ⟨z+1,by omega,by omega,rfl,HB6.out,fun j h1 h2=>?_⟩
      by_cases e:(j:Int)<z
      ·exact hno.out j h1 e
      ·have:j=z.toNat:=by omega
       subst this;exact HN.out
     case measure=>simp [intOf];omega
end Go.Proofs.YtphibahplgmgfaaGreatDoor
namespace Go.Proofs.YtphibahplgmgfaaGreatDoor
open Go.RowKit
theorem flatten_strs:∀ (css:List (List Value)) (xs:List ByteArray),css.length=xs.length→(∀ (i:Nat) (x:ByteArray) (cs:List Value),xs[i]? = some x→css[i]? = some cs→cs = [.string x])→css.flatten=xs.map Value.string
 | [],[],_,_=>rfl
 | [],_::_,h,_=>by simp at h
 | _::_,[],h,_=>by simp at h
 | c::css,x::xs,h,hR=>by
   have h0:=hR 0 x c rfl rfl
   subst h0
   rw [List.flatten_cons,flatten_strs css xs (by simpa using h) (fun i y cs hy hcs=>hR (i+1) y cs (by simpa using hy) (by simpa using hcs))]
   rfl
theorem OwnL.row {w:World} {B:Nat} {E:TypeId} {v:Value} {xs:List ByteArray} (h:OwnL w B E v xs):w.ownsRow B E 1 v xs.length (xs.map Value.string):=by
 obtain ⟨css,hl,hr,hR⟩:=h
 rw [flatten_strs css xs hl (fun i x cs hx hcs=>hR i x cs hx hcs)] at hr
 exact hr
theorem OwnL.of_row {w:World} {B:Nat} {E:TypeId} {v:Value} {xs:List ByteArray} (h:w.ownsRow B E 1 v xs.length (xs.map Value.string)):OwnL w B E v xs:=by
 refine ⟨xs.map (fun x=>[.string x]),by simp,?_,fun i x cs hx hcs=>?_⟩
 ·rw [flatten_strs _ xs (by simp) (fun i x cs hx hcs=>by rw [List.getElem?_map,hx] at hcs;simpa using hcs.symm)]
  exact h
 ·rw [List.getElem?_map,hx] at hcs
  show cs = [.string x]
  simpa using hcs.symm
theorem OwnL.cellS {w:World} {B:Nat} {E:TypeId} {g n c:Nat} {xs:List ByteArray} (h:OwnL w B E (.slice (some ⟨g,0,none⟩) n c) xs) (hn:n=xs.length) {i:Nat} {x:ByteArray} (hx:xs[i]? = some x):w.cell? ⟨g,i,none⟩=some (.string x):=by
 subst hn
 have hi:=(List.getElem?_eq_some_iff.1 hx).1
 rw [h.row.cellAt i (by omega),List.getElem?_map,hx]
 rfl
theorem OwnL.frozenS {w:World} {B:Nat} {E:TypeId} {g n c:Nat} {xs:List ByteArray} (h:OwnL w B E (.slice (some ⟨g,0,none⟩) n c) xs) (hn:n=xs.length) (i:Nat):w.frozen? ⟨g,i,none⟩=false:=by
 subst hn
 exact h.row.frozenAt i
theorem OwnL.setS {w:World} {B:Nat} {E:TypeId} {g n c:Nat} {xs:List ByteArray} (h:OwnL w B E (.slice (some ⟨g,0,none⟩) n c) xs) (hn:n=xs.length) (i:Nat) (y:ByteArray):OwnL (w.setCell ⟨g,i,none⟩ (.string y)) B E (.slice (some ⟨g,0,none⟩) n c) (xs.set i y):=by
 subst hn
 have:=(h.row.stored i (.string y)).1
 refine OwnL.of_row ?_
 rw [List.length_set,List.map_set]
 exact this
end Go.Proofs.YtphibahplgmgfaaGreatDoor
namespace Go.Proofs.YtphibahplgmgfaaGreatDoor
open Go.RowKit
def partStep (l:List ByteArray) (c:UInt8):List ByteArray:=if c.toNat=47 then l ++ [⟨#[]⟩] else l.set (l.length - 1) (l[l.length - 1]?.getD ⟨#[]⟩++⟨#[c]⟩)
def partsL (s:List UInt8):List ByteArray:=s.foldl partStep [⟨#[]⟩]
theorem okS:ElemOK Tryz.prog 34 9 (Enc.k ByteArray) 16:=elemOK Tryz.underlying34 (by kernel_rfl)
theorem partsL_take (s:ByteArray) (q:Nat) (h:q<s.size):partsL (s.data.toList.take (q+1))=partStep (partsL (s.data.toList.take q)) s[q]:=by
 have h2:s.data.toList[q]? = some s[q]:=List.getElem?_eq_getElem (by rw [Array.length_toList];exact h)
 unfold partsL
 rw [List.take_add_one,h2,List.foldl_append]
 rfl
theorem partStep_size {l:List ByteArray} {c:UInt8} {q:Nat} (h:∀ p ∈ l,p.size≤q):∀ p ∈ partStep l c,p.size≤q+1:=by
 intro p hp
 unfold partStep at hp
 split at hp
 ·rcases List.mem_append.1 hp with hp | hp
  ·have:=h p hp;omega
  ·rw [List.mem_singleton.1 hp];exact Nat.zero_le _
 ·rcases List.mem_or_eq_of_mem_set hp with hp | hp
  ·have:=h p hp;omega
  ·rw [hp,ByteArray.size_append]
   have:(⟨#[c]⟩:ByteArray).size=1:=rfl
   cases hx:l[l.length - 1]? with
   | none=>simp only [Option.getD_none];rw [this];have:(⟨#[]⟩:ByteArray).size=0:=rfl;omega
   | some x=>have:=h x (List.mem_of_getElem? hx);simp only [Option.getD_some];omega
theorem ex_one (s:ByteArray) (q:Nat) (h:q<s.size):s.extract q (q+1)=⟨#[s[q]]⟩:=by
 have h2:s.data.toList[q]? = some s[q]:=List.getElem?_eq_getElem (by rw [Array.length_toList];exact h)
 refine toList_inj ?_
 rw [Lib.extract_toList,ByteArray.toList_eq]
 show _ = [s[q]]
 rw [Nat.add_sub_cancel_left,List.take_one,List.head?_drop,h2]
 rfl
set_option maxRecDepth 100000 in
set_option maxHeartbeats 2000000 in
theorem refParts_any (s:ByteArray) (w:World) (hs:s.size≤1099511627776):Calls Tryz.prog 98 #[.string s] w fun e w'=>∃ v,e = .returned v∧OwnL w' w.heap.size 9 v (partsL s.data.toList)∧Below w.heap.size w w':=by
 go_enter Tryz.func98,Tryz.ntmps98
 go_wp2_with fail
 have hO:OwnL (w.alloc (Obj.cells #[Value.string { data:=#[] }] 9)) w.heap.size 9 (.slice (some ⟨w.heap.size,0,none⟩) 1 1) [(⟨#[]⟩:ByteArray)]:=
  OwnL.built [[.string ⟨#[]⟩]] _ (Nat.le_refl _) rfl rfl (by decide) (fun i x cs hx hcs=>by
   rcases i with _ | i
   ·simp at hx hcs;subst hx;subst hcs;exact rfl
   ·simp at hx) rfl
 have HO:=Lib.hid hO
 clear hO
 go_loopw [3,4] (fun l i wr=>∃ q g n c:Nat,q≤s.size∧i = .int .i64 q∧l = .slice (some ⟨g,0,none⟩) n c∧n=(partsL (s.data.toList.take q)).length∧1≤n∧n≤q+1∧Hid (∀ p ∈ partsL (s.data.toList.take q),p.size≤q)∧Below w.heap.size w wr∧OwnL wr w.heap.size 9 (.slice (some ⟨g,0,none⟩) n c) (partsL (s.data.toList.take q))) (fun _ i _=>s.size - (intOf i).toNat)
 case atStart=>exact ⟨0,w.heap.size,1,1,by omega,rfl,rfl,rfl,by omega,by omega,Lib.hid (fun p hp=>by rw [List.mem_singleton.1 hp];exact Nat.zero_le _),Below.al (Below.refl _ _) _,HO.out⟩
 case round=>
  obtain ⟨q,g,n,c,hq,rfl,rfl,hn,h1,h2,HSZ,hbw,hown⟩:=hrel
  have HN:=Lib.hid hn
  have HQ:=Lib.hid hbw
  have HW:=Lib.hid hown
  clear hn hbw hown HO
  by_cases hlt:q<s.size
  ·have b1:(0:Int)≤q:=by omega
   have b2:(q:Int)<(s.size:Int):=by omega
   have HP:=Lib.hid (partsL_take s q hlt)
   generalize partsL (s.data.toList.take q)=L at *
   by_cases h47:(s[q].toNat:Int)=47
   ·have hl:=HW.out
    have b3:n+1≤maxLen:=by unfold maxLen;omega
    have b4:(n+1) * 16≤140737488355328:=by omega
    have B3:Hid (L.length+1≤maxLen):=Lib.hid (by rw [← HN.out];exact b3)
    have B4:Hid ((L.length+1) * 16≤140737488355328):=Lib.hid (by rw [← HN.out];exact b4)
    have hg:w.heap.size≤wr.heap.size:=HQ.out.size
    clear hl b3 b4
    go_wp2_with (at_builtin;go_must (refine wpList_append_L rfl _ _ 34 rfl okS (by decide) (B:=w.heap.size) (v:=.slice (some ⟨g,0,none⟩) n c) (xs:=L) rfl (HW.out.keep (Below.al (Below.refl _ _) _)) (ys:=[(⟨#[]⟩:ByteArray)]) rfl (SlR.made (fun x:ByteArray=>[.string x]) (fun _ _ _=>rfl) _ _ (by simp) rfl (by simp) rfl) (fun _ _ _ h=>h) B3.out B4.out (by simp;omega) ?_);intro v' w' hown hg2 hv')
    obtain ⟨A,c',rfl,_,hA⟩:=hown.sl
    obtain ⟨g',rfl,_,_⟩:=hA (by simp)
    have hst:partStep L s[q]=L ++ [⟨#[]⟩]:=by unfold partStep;rw [if_pos (by omega)]
    refine ⟨⟨q+1,g',_,c',by omega,rfl,rfl,?_,?_,?_,?_,?_,?_⟩,by simp [intOf];omega⟩
    ·rw [HP.out,hst]
    ·simp
    ·simp only [List.length_append,List.length_singleton];rw [← HN.out];omega
    ·rw [HP.out];exact Lib.hid (partStep_size HSZ.out)
    ·exact (HQ.out.alloc hg _).grown hg2 (by simp;omega) (fun j hj=>by cases hj;exact HW.out.ge rfl)
    ·rw [HP.out,hst];exact hown
   ·obtain ⟨x,hx⟩:∃ x,L[n - 1]? = some x:=⟨_,List.getElem?_eq_getElem (by have:=HN.out;omega)⟩
    have c0:=HW.out.cellS HN.out hx
    have f0:=HW.out.frozenS HN.out (n - 1)
    have HX:=Lib.hid hx
    have hxs:=HSZ.out x (List.mem_of_getElem? hx)
    clear hx
    have hext:(s.extract q (q+1)).size=1:=by rw [ex_one s q hlt];rfl
    have b4:x.size+(s.extract q (q+1)).size≤9223372036854775807:=by rw [hext];omega
    have b5:x.size+(min (q+1) s.size - q)≤9223372036854775807:=by omega
    clear hext hxs
    have b3:(1:Int)≤n:=by omega
    obtain ⟨m,rfl⟩:∃ m:Nat,n=m+1:=⟨n - 1,by omega⟩
    simp only [Nat.add_sub_cancel] at c0 f0 HX
    go_upto_region 7 with fail
    go_region
    go_wp2
    refine ⟨⟨q+1,g,m+1,c,by omega,rfl,rfl,?_,by omega,by omega,?_,?_,?_⟩,by simp [intOf];omega⟩
    ·rw [HP.out];unfold partStep;rw [if_neg (by omega),List.length_set];exact HN.out
    ·rw [HP.out];exact Lib.hid (partStep_size HSZ.out)
    ·have hge:w.heap.size≤g:=HW.out.ge rfl
     have hbs:Below w.heap.size w (wr.setCell ⟨g,m,none⟩ (.string (x++s.extract q (q+1)))):=HQ.out.setCell hge _
     exact Below.drew hbs
    ·refine OwnL.keep (Below.refl _ _).drew ?_
     have hst:=HW.out.setS HN.out m (x++s.extract q (q+1))
     rw [HP.out]
     unfold partStep
     rw [if_neg (by omega),← HN.out,Nat.add_sub_cancel,HX.out,Option.getD_some,← ex_one s q hlt]
     exact hst
  ·have b2:(s.size:Int)≤(q:Int):=by omega
   obtain rfl:q=s.size:=by omega
   rw [List.take_of_length_le (by rw [Array.length_toList];exact Nat.le_refl _)] at HW
   go_wp2
   go_ret
   exact ⟨_,rfl,HW.out,HQ.out⟩
end Go.Proofs.YtphibahplgmgfaaGreatDoor
namespace Go.Proofs.YtphibahplgmgfaaGreatDoor
open Go.RowKit
def partsR:List UInt8→List UInt8→List (List UInt8)
 | a,[]=>[a]
 | a,c::r=>if c.toNat=47 then a::partsR [] r else partsR (a ++ [c]) r
theorem partsR_clean:∀ (s a r:List UInt8),(∀ k:Nat,s[k]?≠some 47)→partsR a (s++r)=partsR (a++s) r
 | [],a,r,_=>by simp
 | c::s,a,r,h=>by
   have h0:c.toNat≠47:=fun e=>h 0 (by simp;exact UInt8.toNat_inj.1 e)
   rw [List.cons_append,partsR,if_neg h0,partsR_clean s (a ++ [c]) r (fun k=>by have:=h (k+1);simpa using this),List.append_assoc]
   rfl
theorem partStep_data (l:List ByteArray) (p:ByteArray) (c:UInt8):partStep (l ++ [p]) c=if c.toNat=47 then l ++ [p] ++ [⟨#[]⟩] else l ++ [p++⟨#[c]⟩]:=by
 unfold partStep
 by_cases h:c.toNat=47
 ·rw [if_pos h,if_pos h]
 ·rw [if_neg h,if_neg h]
  have hl:(l ++ [p]).length - 1=l.length:=by simp
  rw [hl,List.getElem?_append_right (Nat.le_refl _),Nat.sub_self,List.set_append_right _ _ (Nat.le_refl _),Nat.sub_self]
  rfl
theorem data_app (p:ByteArray) (c:UInt8):(p++⟨#[c]⟩:ByteArray).data.toList=p.data.toList ++ [c]:=by
 simp
theorem foldl_parts:∀ (s:List UInt8) (l:List ByteArray) (p:ByteArray),(s.foldl partStep (l ++ [p])).map (·.data.toList)=l.map (·.data.toList)++partsR p.data.toList s
 | [],l,p=>by simp [partsR]
 | c::r,l,p=>by
   rw [List.foldl_cons,partStep_data,partsR]
   by_cases h:c.toNat=47
   ·rw [if_pos h,if_pos h,foldl_parts r (l ++ [p]) ⟨#[]⟩]
    simp
   ·rw [if_neg h,if_neg h,foldl_parts r l _,data_app]
theorem partsL_data (s:List UInt8):(partsL s).map (·.data.toList)=partsR [] s:=by
 have:=foldl_parts s [] ⟨#[]⟩
 simpa [partsL] using this
theorem split_data:∀ (k:Nat) (s:ByteArray),Lib.countB s ⟨#[47]⟩=k→(Lib.splitB ⟨#[47]⟩ 0 k s).map (·.data.toList)=partsR [] s.data.toList
 | k,s,hk=>by
   have h1:Lib.indexB s ⟨#[47]⟩=Lib.indexByte s.data.toList 47:=Lib.index_one _ _
   rcases Lib.indexB_cases s ⟨#[47]⟩ with hi | ⟨i,hi,hlt⟩
   ·rw [Lib.splitB_miss _ _ _ _ hi]
    have:=partsR_clean s.data.toList [] [] (Lib.indexByte_none (h1.symm.trans hi))
    rw [List.append_nil] at this
    rw [this]
    rfl
   ·have hc:=Lib.countB_hit s ⟨#[47]⟩ i (by decide) hi
    obtain ⟨k',rfl⟩:∃ k',k=k'+1:=⟨k - 1,by omega⟩
    rw [Lib.splitB_hit _ _ _ _ i hi,List.map_cons,split_data k' _ (by omega)]
    have he:(⟨#[47]⟩:ByteArray).size=1:=rfl
    rw [he,Lib.extract_to_end,Lib.extract_data]
    obtain ⟨h2,h3⟩:=Lib.indexByte_some (h1.symm.trans hi)
    have hil:=(List.getElem?_eq_some_iff.1 h2).1
    have hsplit:s.data.toList=s.data.toList.take i++(47::s.data.toList.drop (i+1)):=by
     have h4:s.data.toList.drop i=47::s.data.toList.drop (i+1):=by
      rw [List.drop_eq_getElem_cons hil]
      rw [List.getElem?_eq_getElem hil] at h2
      rw [Option.some.inj h2]
     rw [← h4,List.take_append_drop]
    conv=>rhs;rw [hsplit]
    rw [partsR_clean _ [] _ (fun k hk=>by
     rw [List.getElem?_take] at hk
     split at hk
     ·rename_i hki;exact h3 k hki hk
     ·cases hk),partsR,if_pos (by decide)]
    simp
theorem parts_split (s:ByteArray) (f:List UInt8→Bool):(partsL s.data.toList).all (fun p=>f p.data.toList)=(Lib.splitB ⟨#[47]⟩ 0 (Lib.countB s ⟨#[47]⟩) s).all (fun p=>f p.data.toList):=by
 have h1:=congrArg (·.all f) (partsL_data s.data.toList)
 have h2:=congrArg (·.all f) (split_data _ s rfl)
 simp only [List.all_map] at h1 h2
 exact h1.trans h2.symm
theorem trimB_data (p:ByteArray):(trimB p).data.toList=Lib.trimSuffix p.data.toList [32]:=by
 have hl:p.data.toList.length=p.size:=Array.length_toList
 unfold trimB Lib.trimSuffix Lib.hasSuffix
 by_cases h:0<p.size
 ·have hd:p.data.toList.drop (p.data.toList.length - [(32:UInt8)].length) = [p[p.size - 1]]:=by
   rw [hl,List.length_singleton,List.drop_eq_getElem_cons (by omega),List.drop_eq_nil_of_le (by omega)]
   rfl
  have hap:=List.take_append_drop (p.data.toList.length - [(32:UInt8)].length) p.data.toList
  rw [hd] at hap
  rw [dif_pos h]
  by_cases h2:(p[p.size - 1]'(by omega)).toNat=32
  ·have h3:p[p.size - 1]=(32:UInt8):=UInt8.toNat_inj.1 h2
   rw [h3] at hap
   rw [if_pos h2,if_pos (List.isSuffixOf_iff_suffix.2 ⟨_,hap⟩),Lib.extract_data,hl]
   simp
  ·have h3:p[p.size - 1]≠(32:UInt8):=fun e=>h2 (by rw [e];rfl)
   rw [if_neg h2,if_neg]
   intro hs
   obtain ⟨t,ht⟩:=List.isSuffixOf_iff_suffix.1 hs
   rw [← hap] at ht
   have:=(List.append_inj' ht rfl).2
   simp at this
   exact h3 this.symm
 ·have h0:p.data.toList = []:=List.eq_nil_of_length_eq_zero (by omega)
  rw [dif_neg h,h0]
  rfl
theorem refPre_prefix (s:ByteArray):refPre s=match prefixL s.data.toList with
  | some (n,_)=>(n,Lib.index s.data.toList [58])
  | none=>(0,0):=by
 unfold refPre prefixL Lib.cut
 by_cases h:Lib.index s.data.toList [58]<0
 ·rw [if_pos h,if_neg (show ¬ 0≤Lib.index s.data.toList [58] by omega)]
  simp
 ·rw [if_neg h,if_pos (show 0≤Lib.index s.data.toList [58] by omega)]
  have he:(trimB (s.extract 0 (Lib.index s.data.toList [58]).toNat)).data.toList=Lib.trimSuffix (s.data.toList.take (Lib.index s.data.toList [58]).toNat) [32]:=by
   rw [trimB_data,Lib.extract_data]
   simp
  rw [he]
  by_cases h2:spaceOf (foldL (Lib.trimSuffix (s.data.toList.take (Lib.index s.data.toList [58]).toNat) [32]))=0
  ·rw [if_pos h2,if_neg (by simp [h2])]
  ·rw [if_neg h2,if_pos ⟨rfl,h2⟩]
theorem prefixL_rest {s:List UInt8} {n:Int} {r:List UInt8} (h:prefixL s=some (n,r)):0≤Lib.index s [58]∧r=s.drop ((Lib.index s [58]).toNat+1)∧n=spaceOf (foldL (Lib.trimSuffix (s.take (Lib.index s [58]).toNat) [32]))∧n≠0:=by
 unfold prefixL Lib.cut at h
 by_cases h0:0≤Lib.index s [58]
 ·rw [if_pos h0] at h
  simp only [true_and,List.length_singleton] at h
  split at h
  ·rename_i h2
   simp only [Option.some.injEq,Prod.mk.injEq] at h
   exact ⟨h0,h.2.symm,h.1.symm,h.1 ▸ h2⟩
  ·cases h
 ·rw [if_neg h0] at h
  simp at h
theorem refPre_zero (s:ByteArray):decide ((refPre s).1=0)=decide (prefixL s.data.toList=none):=by
 rw [refPre_prefix]
 cases h:prefixL s.data.toList with
 | none=>rfl
 | some x=>
   obtain ⟨n,r⟩:=x
   have:=(prefixL_rest h).2.2.2
   simp [this]
end Go.Proofs.YtphibahplgmgfaaGreatDoor
namespace Go.Proofs.YtphibahplgmgfaaGreatDoor
open Go.RowKit
theorem refIndexBad (s:ByteArray) (q:Nat) (hq:q<s.size) (w:World):Calls Tryz.prog 97 #[.string ⟨#[60,62,91,93,123,125,124,35,95]⟩,.string (s.extract q (q+1)),.int .i64 0] w fun e w'=>e = .returned (.int .i64 (Lib.indexByte badName s[q]))∧w=w':=by
 rw [ex_one s q hq]
 refine (refIndex_any _ _ w (by show 9+1≤_;omega)).mono ?_
 rintro e w' ⟨rfl,rfl⟩
 refine ⟨?_,rfl⟩
 rw [← Lib.index_one]
 rfl
set_option maxRecDepth 100000 in
set_option maxHeartbeats 4000000 in
theorem refValid_any (t:Title) (w:World):Calls Tryz.prog 57 #[.agg #[.int .i64 t.space,.string t.name]] w fun e w'=>e = .returned (.bool t.valid)∧Below w.heap.size w w':=by
 obtain ⟨sp,s⟩:=t
 by_cases h:0≤sp∧sp<6∧1≤s.size∧s.size≤100
 case neg=>
  have hv:Title.valid ⟨sp,s⟩=false:=by
   cases hV:Title.valid ⟨sp,s⟩ with
   | false=>rfl
   | true=>
     simp only [Title.valid,Bool.and_eq_true,decide_eq_true_eq] at hV
     obtain ⟨⟨⟨⟨⟨⟨⟨ha,hb⟩,hc⟩,hd⟩,hcl⟩,_⟩,_⟩,_⟩:=hV
     exact absurd ⟨ha,hb,hc,hd⟩ h
  have HV:=Lib.hid hv
  have h':sp<0∨6≤sp∨(s.size:Int)<1∨(100:Int)<s.size:=by omega
  clear h hv
  go_enter Tryz.func57,Tryz.ntmps57
  go_wp2
  all_goals
   first
   | (exfalso;omega)
   | (go_ret
      exact ⟨ret_bool HV.out.symm,Below.al (Below.refl _ _) _⟩)
 obtain ⟨h1,h2,h3,h4⟩:=h
 have hs1:(1:Int)≤s.size:=by omega
 have hs2:(s.size:Int)≤100:=by omega
 have HSP:Hid (Title.valid ⟨sp,s⟩=(cleanL (-1) s.data.toList&&((partsL s.data.toList).all (fun p=>partOK p.data.toList)&&(firstOK (s[0]'(by omega)).toNat&&(decide (sp≠0)||decide ((refPre s).1=0)))))):=Lib.hid (by
  rw [parts_split s partOK,refPre_zero,← head_of s (by omega)]
  simp [Title.valid,h1,h2,h3,h4,Bool.and_assoc])
 go_enter Tryz.func57,Tryz.ntmps57
 go_wp2_with fail
 all_goals try (exfalso;omega)
 generalize hw1:w.alloc _=w1
 have c0_0:w1.cell? ⟨w.heap.size,0,none⟩=some (.int .i64 sp):=by subst hw1;go_simp
 have c0_1:w1.cell? ⟨w.heap.size,1,none⟩=some (.string s):=by subst hw1;go_simp
 have HB:Hid (Below w.heap.size w w1):=by subst hw1;exact Below.al (Below.refl _ _) _
 clear hw1
 have HF:Hid (∀ W,Below w1.heap.size w1 W→W.cell? ⟨w.heap.size,0,none⟩=some (.int .i64 sp)∧W.cell? ⟨w.heap.size,1,none⟩=some (.string s)):=fun W h=>⟨re1 h (cell_lt c0_0) c0_0,re1 h (cell_lt c0_1) c0_1⟩
 go_loopw [4] (fun i wr=>∃ q:Nat,q≤s.size∧i = .int .i64 q∧wr=w1∧Hid (cleanL (-1) s.data.toList=cleanL (prevAt s q) (s.data.toList.drop q))) (fun i _=>s.size - (intOf i).toNat)
 case atStart=>exact ⟨0,Nat.zero_le _,rfl,rfl,rfl⟩
 case round=>
  obtain ⟨q,hq,rfl,rfl,hC⟩:=hrel
  by_cases hlt:q<s.size
  ·have HD:Hid (s.data.toList.drop q=s[q]::s.data.toList.drop (q+1)):=List.drop_eq_getElem_cons (by rw [Array.length_toList];exact hlt)
   have HP':Hid (prevAt s (q+1)=((s[q]'hlt).toNat:Int)):=by unfold prevAt;rw [dif_pos ⟨Nat.succ_pos q,hlt⟩];rfl
   have b1:(0:Int)≤q:=by omega
   have b2:(q:Int)<(s.size:Int):=by omega
   by_cases h0:q=0
   ·subst h0
    have HP:Hid (prevAt s 0 = -1):=rfl
    go_wp2_with (go_at_call 97;refine (refIndexBad s 0 hlt _).mono ?_;rintro e w' ⟨rfl,rfl⟩)
    all_goals (try simp only [beq_iff_eq,beq_eq_false_iff_ne,ne_eq] at *)
    all_goals first
     | (exfalso;omega)
     | (go_ret;refine ⟨ret_bool ?_,HB.out⟩;rw [HSP.out,hC.out,HD.out,cleanL_stop (by rw [HP.out];omega)];rfl)
     | (go_roundw;(case rel=>(refine ⟨1,by omega,rfl,by trivial,?_⟩;rw [hC.out,HD.out,cleanL_go (by rw [HP.out];omega)];exact congrArg (fun p=>cleanL p (s.data.toList.drop (0+1))) HP'.out.symm));(case measure=>(simp [intOf];omega)))
   ·have HP:Hid (prevAt s q=((s[q - 1]'(by omega)).toNat:Int)):=by unfold prevAt;rw [dif_pos ⟨by omega,by omega⟩];exact Lib.hid rfl
    have hq1:0<q:=by omega
    have b3:(1:Int)≤q:=by omega
    clear h0
    go_wp2_with (go_at_call 97;refine (refIndexBad s q hlt _).mono ?_;rintro e w' ⟨rfl,rfl⟩)
    all_goals (try simp only [beq_iff_eq,beq_eq_false_iff_ne,ne_eq] at *)
    all_goals first
     | (exfalso;omega)
     | (go_ret;refine ⟨ret_bool ?_,HB.out⟩;rw [HSP.out,hC.out,HD.out,cleanL_stop (by rw [HP.out];omega)];rfl)
     | (go_roundw;(case rel=>(refine ⟨q+1,by omega,by go_num,by trivial,?_⟩;rw [hC.out,HD.out,cleanL_go (by rw [HP.out];omega)];exact congrArg (fun p=>cleanL p (s.data.toList.drop (q+1))) HP'.out.symm));(case measure=>(simp [intOf];omega)))
  ·obtain rfl:q=s.size:=by omega
   have hz:s.data.toList.drop s.size = []:=List.drop_eq_nil_of_le (by rw [Array.length_toList];exact Nat.le_refl _)
   have HZ:Hid (cleanL (-1) s.data.toList=true):=by rw [hC.out,hz];exact rfl
   rw [HZ.out,Bool.true_and] at HSP
   clear hz hC HZ
   go_wp2_with fail
   refine (refParts_any s _ (by omega)).mono ?_
   rintro e w2 ⟨v,rfl,hown,hb2⟩
   have hps:Hid (∀ p ∈ partsL s.data.toList,p.size≤100):=Lib.hid (by
    have hall:=parts_split s (fun l=>decide (l.length≤100))
    have h5:(Lib.splitB ⟨#[47]⟩ 0 (Lib.countB s ⟨#[47]⟩) s).all (fun p=>decide (p.data.toList.length≤100))=true:=by
     rw [List.all_eq_true]
     intro p hp
     have:=splitB_size ⟨#[47]⟩ _ s p hp
     rw [Array.length_toList]
     exact decide_eq_true (Nat.le_trans this h4)
    rw [h5,List.all_eq_true] at hall
    intro p hp
    have:=of_decide_eq_true (hall p hp)
    rw [Array.length_toList] at this
    exact this)
   generalize partsL s.data.toList=ps at *
   obtain ⟨A,c,rfl,hS,_⟩:=hown.sl
   have c1:w2.cell? ⟨w.heap.size,0,none⟩=some (.int .i64 sp):=re1 hb2 (cell_lt c0_0) c0_0
   have HB2:=Lib.hid (Below.tr HB.out hb2)
   have HS:=Lib.hid hS
   have hle:=hS.le
   have hle2:(ps.length:Int)≤9223372036854775807:=by omega
   clear hown hb2 hS c0_0 c0_1 HF HB
   go_wp2_with fail
   go_loopw [6] (fun i wr=>∃ q:Nat,q≤ps.length∧i = .int .i64 q∧Below w2.heap.size w2 wr∧Hid (ps.all (fun p=>partOK p.data.toList)=(ps.drop q).all (fun p=>partOK p.data.toList))) (fun i _=>ps.length - (intOf i).toNat)
   case atStart=>exact ⟨0,by omega,rfl,Below.refl _ _,rfl⟩
   case round=>
    obtain ⟨q,hq,rfl,hbw,hA⟩:=hrel
    have HW:=Lib.hid hbw
    clear hbw
    by_cases hlt:q<ps.length
    ·have b1:(0:Int)≤q:=by omega
     have b2:(q:Int)<(ps.length:Int):=by omega
     obtain ⟨b,off,x,cs,hA,hbl,hx,hd,hR,hc⟩:=(HS.out.mono HW.out).elem hlt
     obtain rfl:=hA
     have d0:wr.cell? ⟨b,off+q,none⟩=some (.string x):=by subst hR;simpa using hc 0 _ rfl
     have HD:=Lib.hid hd
     have HX:=Lib.hid hx
     clear hx hd hR hc
     have hxs:=hps.out x (List.mem_of_getElem? HX.out)
     by_cases hx0:x.size=0
     ·have hx1:x.toList = []:=by rw [ByteArray.toList_eq];exact List.eq_nil_of_length_eq_zero (by rw [Array.length_toList];exact hx0)
      have HP:Hid (partOK x.data.toList=false):=Lib.hid (by rw [← ByteArray.toList_eq,hx1];rfl)
      clear hx0
      go_wp2_with fail
      go_quiet (fail)
      go_wp2
      go_ret
      exact ⟨ret_bool (by rw [HSP.out,hA.out,HD.out,List.all_cons,HP.out];rfl),Below.tr HB2.out (Below.dn HW.out _)⟩
     ·have hx1:¬ x.toList = []:=fun e=>by rw [ByteArray.toList_eq] at e;exact hx0 (by have:=congrArg List.length e;rw [Array.length_toList] at this;exact this)
      have hx2:0<x.size:=by omega
      have hx3:(0:Int)≤(x.size:Int) - 1:=by omega
      have hx4:(0:Int)<(x.size:Int):=by omega
      have hx5:(1:Int)≤(x.size:Int):=by omega
      have hx9:(x.size:Int) - 1<(x.size:Int):=by omega
      have hx6:x.toList.isEmpty=false:=by rw [List.isEmpty_eq_false_iff];exact hx1
      have hx7:(x.toList == [])=false:=beq_eq_false_iff_ne.2 hx1
      have hx8:decide (x.toList = [])=false:=decide_eq_false hx1
      have HP:=Lib.hid (partOK_def x hx2)
      clear hx0
      by_cases hf:(x[0].toNat:Int)=32
      ·have HP2:Hid (partOK x.data.toList=false):=Lib.hid (by rw [HP.out,hf];rfl)
       go_wp2_with fail
       go_quiet (fail)
       go_wp2
       go_ret
       exact ⟨ret_bool (by rw [HSP.out,hA.out,HD.out,List.all_cons,HP2.out];rfl),Below.tr HB2.out (Below.dn HW.out _)⟩
      ·by_cases hl:((x[x.size - 1]'(by omega)).toNat:Int)=32
       ·have HP2:Hid (partOK x.data.toList=false):=Lib.hid (by rw [HP.out,hl];simp)
        have hf:((x[0].toNat:Int) == 32)=false:=beq_eq_false_iff_ne.2 hf
        go_wp2_with fail
        go_quiet (fail)
        go_wp2
        go_ret
        exact ⟨ret_bool (by rw [HSP.out,hA.out,HD.out,List.all_cons,HP2.out];rfl),Below.tr HB2.out (Below.dn HW.out _)⟩
       ·have HP2:Hid (partOK x.data.toList=true):=Lib.hid (by rw [HP.out,beq_eq_false_iff_ne.2 hf,beq_eq_false_iff_ne.2 hl];rfl)
        have hf:((x[0].toNat:Int) == 32)=false:=beq_eq_false_iff_ne.2 hf
        have hl:(((x[x.size - 1]'(by omega)).toNat:Int) == 32)=false:=beq_eq_false_iff_ne.2 hl
        go_wp2_with fail
        go_quiet (fail)
        go_wp2
        go_roundw
        case rel=>exact ⟨q+1,by omega,by go_num,Below.dn HW.out _,Lib.hid (by rw [hA.out,HD.out,List.all_cons,HP2.out];rfl)⟩
        case measure=>simp [intOf];omega
    ·obtain rfl:q=ps.length:=by omega
     have hz:ps.all (fun p=>partOK p.data.toList)=true:=by
      rw [hA.out,List.drop_eq_nil_of_le (Nat.le_refl _)];rfl
     rw [hz,Bool.true_and] at HSP
     have c2:wr.cell? ⟨w.heap.size,0,none⟩=some (.int .i64 sp):=re1 HW.out (cell_lt c1) c1
     clear hz hA c1 hps
     have hs0:(0:Int)<s.size:=by omega
     go_wp2_with (go_at_call 99;refine (refPrefixed_any s _ (by omega)).mono ?_;rintro e w5 ⟨rfl,hb5⟩;have c3:=re1 hb5 (cell_lt c2) c2)
     all_goals
      go_ret
      refine ⟨ret_bool ?_,?_⟩
      ·rw [HSP.out]
       simp only [beq_iff_eq,beq_eq_false_iff_ne,ne_eq] at *
       first
        | (rw [firstOK_no1 (by omega)];rfl)
        | (rw [firstOK_no2 (by omega) (by omega)];rfl)
        | (rw [firstOK_yes (by omega) (by omega)];simp_all;done)
        | (rw [firstOK_yes (by omega) (by omega)];simp_all;rfl)
      ·first | exact Below.tr (Below.tr HB2.out HW.out) (by assumption) | exact Below.tr HB2.out HW.out
end Go.Proofs.YtphibahplgmgfaaGreatDoor
namespace Go.Proofs.YtphibahplgmgfaaGreatDoor
open Go.RowKit
def hasL (L:List ByteArray) (s:ByteArray):Bool:=L.any (fun x=>decide (x=s))
theorem hasL_drop {L:List ByteArray} {q:Nat} {x s:ByteArray} (h:L.drop q=x::L.drop (q+1)) (hne:x≠s):hasL (L.drop q) s=hasL (L.drop (q+1)) s:=by
 unfold hasL
 rw [h,List.any_cons,decide_eq_false hne,Bool.false_or]
theorem hasL_at {L:List ByteArray} {q:Nat} {x s:ByteArray} (h:L.drop q=x::L.drop (q+1)) (he:x=s):hasL (L.drop q) s=true:=by
 unfold hasL
 rw [h,List.any_cons,decide_eq_true he,Bool.true_or]
set_option maxRecDepth 100000 in
set_option maxHeartbeats 1000000 in
theorem refHas_any (A:Option Addr) (n c:Nat) (L:List ByteArray) (s:ByteArray) (w:World) (hS:SlR w A n c L):Calls Tryz.prog 90 #[.slice A n c,.string s] w fun e w'=>e = .returned (.bool (hasL L s))∧w=w':=by
 have HS:=Lib.hid hS
 have hle:=hS.le
 have hle2:(n:Int)≤9223372036854775807:=by omega
 have HN:=Lib.hid hS.1
 clear hS
 go_enter Tryz.func90,Tryz.ntmps90
 go_wp2
 go_loop [5] (fun i=>∃ q:Nat,q≤n∧i = .int .i64 q∧Hid (hasL L s=hasL (L.drop q) s)) (fun i=>n - (intOf i).toNat)
 case atStart=>exact ⟨0,by omega,rfl,rfl⟩
 case round=>
  obtain ⟨q,hq,rfl,hno⟩:=hrel
  by_cases hlt:q<n
  ·have b1:(0:Int)≤q:=by omega
   have b2:(q:Int)<(n:Int):=by omega
   obtain ⟨b,off,x,cs,hA,hbl,hx,hd,hR,hc⟩:=(HS.out).elem hlt
   obtain rfl:=hA
   have d0:w.cell? ⟨b,off+q,none⟩=some (.string x):=by subst hR;simpa using hc 0 _ rfl
   have HD:=Lib.hid hd
   have HX:=Lib.hid hx
   clear hx hd hR hc
   go_wp2
   all_goals (try simp only [beq_iff_eq,beq_eq_false_iff_ne,ne_eq] at *)
   ·have h:x.toList=s.toList:=by assumption
    go_ret
    refine ⟨ret_bool ?_,rfl⟩
    rw [hno.out,hasL_at HD.out (toList_inj h)]
   ·have h:¬ x.toList=s.toList:=by assumption
    exact ⟨⟨q+1,by omega,by simp,Lib.hid (hno.out.trans (hasL_drop HD.out (fun e=>h (by rw [e]))))⟩,by simp [intOf];omega⟩
  ·obtain rfl:q=n:=by omega
   have HE:Hid (hasL L s=false):=Lib.hid (by rw [hno.out,HN.out,List.drop_length];rfl)
   go_wp2
   go_ret
   exact ⟨ret_bool HE.out.symm,rfl⟩
end Go.Proofs.YtphibahplgmgfaaGreatDoor
namespace Go.Proofs.YtphibahplgmgfaaGreatDoor
open Go.RowKit
theorem OwnL.drew {α:Type} [Enc α] {w:World} {B:Nat} {E:TypeId} {v:Value} {xs:List α} (h:OwnL w B E v xs):OwnL w.drew B E v xs:=OwnL.keep (Below.refl _ _).drew h
theorem OwnL.al {α:Type} [Enc α] {w:World} {B:Nat} {E:TypeId} {v:Value} {xs:List α} (h:OwnL w B E v xs) (o:Obj):OwnL (w.alloc o) B E v xs:=OwnL.keep (Below.al (Below.refl _ _) _) h
theorem step_append_L {P:Program} {α:Type} [Enc α] {ops:Array Oper} {o:Oper} {a:Act} {w:World} {K:Act→World→Prop} {Q:Exit→Act→World→Prop} {E0:Prop} (hgd:o.guard=none) (s x:Operand) (t:TypeId)
  (ho:o.op = .call { callee:=.builtin .append,args:=#[s,x],argTypes:=#[t,t] })
  {E:TypeId} {bytes:Nat} (ok:ElemOK P t E (Enc.k α) bytes) (hk0:0<Enc.k α) {B:Nat} {v:Value} {xs:List α} (hs:a.eval s=v) (hown:OwnL w B E v xs)
  {A:Option Addr} {m c:Nat} {ys:List α} {S:Nat→Prop} (hx:a.eval x = .slice A m c) (hr:SlS S w A m c ys) (hE:∀ (y:α) (cs:List Value),y ∈ ys→Enc.R S w y cs→Enc.R (fun b=>v.ownBlock≠some b) w y cs)
  (h63:xs.length+m≤maxLen) (hbytes:(xs.length+m) * bytes≤140737488355328) (hbase:B≤w.heap.size)
  (h:∀ v' w',OwnL w' B E v' (xs++ys)→w.grownBy w' v.ownBlock→(v'.ownBlock=v.ownBlock∨v'.ownBlock=some w.heap.size)→K (a.put o.dst v') w') :
  if Region.wanted o (yielded ops a.tmps)=true then Oper.wp P o a w K Q else E0:=by
 have hw:Region.wanted o (yielded ops a.tmps)=true:=by simp [Region.wanted,hgd]
 rw [if_pos hw]
 exact wp_append_L s x t ho ok hk0 hs hown hx hr hE h63 hbytes hbase h
end Go.Proofs.YtphibahplgmgfaaGreatDoor
namespace Go.Proofs.YtphibahplgmgfaaGreatDoor
open Go.RowKit
def titleCells (x:Title):List Value:=[.int .i64 x.space,.string x.name]
def ancUpto (t:Title) (q:Nat):List Title:=((List.range q).filter (fun i=>t.name.data.toList[i]? == some 47)).map (fun i=>⟨t.space,t.name.extract 0 i⟩)
def ancL (t:Title):List Title:=if t.valid then ancUpto t t.name.size else []
theorem ancUpto_yes {t:Title} {q:Nat} (hq:q<t.name.size) (h:(t.name[q].toNat:Int)=47):ancUpto t (q+1)=ancUpto t q ++ [⟨t.space,t.name.extract 0 q⟩]:=by
 have h2:t.name.data.toList[q]? = some t.name[q]:=List.getElem?_eq_getElem (by rw [Array.length_toList];exact hq)
 have h3:t.name[q]=47:=UInt8.toNat_inj.1 (by show _=47;omega)
 have h4:(fun i=>t.name.data.toList[i]? == some 47) q=true:=by show (t.name.data.toList[q]? == some 47)=true;rw [h2,h3];rfl
 unfold ancUpto
 rw [List.range_succ,List.filter_append,List.map_append,List.filter_cons_of_pos (p:=fun i=>t.name.data.toList[i]? == some 47) h4]
 rfl
theorem ancUpto_no {t:Title} {q:Nat} (hq:q<t.name.size) (h:¬ (t.name[q].toNat:Int)=47):ancUpto t (q+1)=ancUpto t q:=by
 have h2:t.name.data.toList[q]? = some t.name[q]:=List.getElem?_eq_getElem (by rw [Array.length_toList];exact hq)
 have h3:¬ t.name[q]=47:=fun e=>h (by rw [e];rfl)
 have h4:¬ (fun i=>t.name.data.toList[i]? == some 47) q=true:=by show ¬ (t.name.data.toList[q]? == some 47)=true;rw [h2];simpa using h3
 unfold ancUpto
 rw [List.range_succ,List.filter_append,List.map_append,List.filter_cons_of_neg (p:=fun i=>t.name.data.toList[i]? == some 47) h4]
 simp
theorem ancUpto_len (t:Title) (q:Nat):(ancUpto t q).length≤q:=by
 unfold ancUpto
 rw [List.length_map]
 exact Nat.le_trans (List.length_filter_le _ _) (by simp)
theorem okTitles:ElemOK Tryz.prog 37 29 (Enc.k Title) 24:=elemOK Tryz.underlying37 (by kernel_rfl)
theorem refValidG_any (t:Title) (w:World) (_:Glob w):Calls Tryz.prog 57 #[.agg #[.int .i64 t.space,.string t.name]] w fun e w'=>e = .returned (.bool t.valid)∧Below w.heap.size w w':=refValid_any t w
set_option maxRecDepth 100000 in
set_option maxHeartbeats 2000000 in
theorem refAncestors_any (t:Title) (w:World) (hG:Glob w):Calls Tryz.prog 132 #[.agg #[.int .i64 t.space,.string t.name]] w fun e w'=>∃ v,e = .returned v∧OwnL w' w.heap.size 29 v (ancL t)∧Below w.heap.size w w':=by
 have HV:Hid (t.valid=true→t.name.size≤100):=Lib.hid fun h=>by
  simp only [Title.valid,Bool.and_eq_true,decide_eq_true_eq] at h
  omega
 have HA:Hid (ancL t=if t.valid then ancUpto t t.name.size else []):=Lib.hid rfl
 obtain ⟨sp,s⟩:=t
 go_enter Tryz.func132,Tryz.ntmps132
 go_wp2_with fail
 generalize hw1:w.alloc _=w1
 have c0_0:w1.cell? ⟨w.heap.size,0,none⟩=some (.int .i64 sp):=by subst hw1;go_simp
 have c0_1:w1.cell? ⟨w.heap.size,1,none⟩=some (.string s):=by subst hw1;go_simp
 have HB:Hid (Below w.heap.size w w1):=by subst hw1;exact Below.al (Below.refl _ _) _
 clear hw1
 have HF:Hid (∀ W,Below w1.heap.size w1 W→W.cell? ⟨w.heap.size,0,none⟩=some (.int .i64 sp)∧W.cell? ⟨w.heap.size,1,none⟩=some (.string s)):=fun W h=>⟨re1 h (cell_lt c0_0) c0_0,re1 h (cell_lt c0_1) c0_1⟩
 refine (refValidG_any ⟨sp,s⟩ _ (hG.below HB.out)).mono ?_
 rintro e w2 ⟨rfl,hb2⟩
 try clear c0_0 c0_1
 obtain ⟨c0_0,c0_1⟩:=HF.out _ (hb2)
 have HB2:=Lib.hid (Below.tr HB.out hb2)
 clear hb2 HB HF
 by_cases hv:Title.valid ⟨sp,s⟩=true
 case neg=>
  have hv:Title.valid ⟨sp,s⟩=false:=by simpa using hv
  rw [hv] at HA ⊢
  clear hv HV
  go_wp2
  go_ret
  exact ⟨_,rfl,by rw [HA.out];exact OwnL.nil _ _ _,HB2.out⟩
 have hs:=HV.out hv
 rw [hv] at HA ⊢
 clear hv HV
 go_wp2_with fail
 go_loopw [3,4] (fun l i wr=>∃ q:Nat,q≤s.size∧i = .int .i64 q∧Below w2.heap.size w2 wr∧OwnL wr w2.heap.size 29 l (ancUpto ⟨sp,s⟩ q)) (fun _ i _=>s.size - (intOf i).toNat)
 case atStart=>exact ⟨0,by omega,rfl,Below.refl _ _,OwnL.nil _ _ _⟩
 case round=>
  obtain ⟨q,hq,rfl,hbw,hown⟩:=hrel
  have HQ:=Lib.hid hbw
  have HW:=Lib.hid hown
  have e0:=re1 HQ.out (cell_lt c0_0) c0_0
  have e1:=re1 HQ.out (cell_lt c0_1) c0_1
  clear hbw hown
  by_cases hlt:q<s.size
  ·have b1:(0:Int)≤q:=by omega
   have b2:(q:Int)<(s.size:Int):=by omega
   by_cases h47:(s[q].toNat:Int)=47
   ·have hl:=ancUpto_len ⟨sp,s⟩ q
    have HL:=Lib.hid (ancUpto_yes (t:=⟨sp,s⟩) hlt h47)
    have B3:Hid ((ancUpto ⟨sp,s⟩ q).length+1≤maxLen):=Lib.hid (by unfold maxLen;omega)
    have B4:Hid (((ancUpto ⟨sp,s⟩ q).length+1) * 24≤140737488355328):=Lib.hid (by omega)
    have hg:w2.heap.size≤wr.heap.size:=HQ.out.size
    clear hl
    generalize ancUpto ⟨sp,s⟩ q=L at *
    go_upto_region 8 with fail
    go_region_law (refine step_append_L rfl _ _ 37 rfl okTitles (by decide) (B:=w2.heap.size) (v:=u3) (xs:=L) rfl (by first | exact HW.out.drew.al _ | exact (HW.out.al _).drew) (S:=fun _=>True) (ys:=[(⟨sp,s.extract 0 q⟩:Title)]) rfl (by first | exact SlR.made titleCells (fun _ _ _=>rfl) _ _ (xs:=[(⟨sp,s.extract 0 q⟩:Title)]) rfl rfl (show 1≤9223372036854775807 by omega) rfl | exact SlR.drew (SlR.made titleCells (fun _ _ _=>rfl) _ _ (xs:=[(⟨sp,s.extract 0 q⟩:Title)]) rfl rfl (show 1≤9223372036854775807 by omega) rfl)) (fun _ _ _ h=>h) B3.out B4.out (by simp;omega) ?_;intro v' w' hown hg2 hv')
    all_goals
     go_wp2
     refine ⟨⟨q+1,by omega,by go_num,?_,by rw [HL.out];exact hown⟩,by simp [intOf];omega⟩
     refine Below.grown ?_ hg2 (by simp;omega) (fun j hj=>HW.out.ge hj)
     exact (HQ.out.alloc hg _).drew
   ·have HL:=Lib.hid (ancUpto_no (t:=⟨sp,s⟩) hlt h47)
    go_wp2
    go_roundw
    case rel=>exact ⟨q+1,by omega,by go_num,HQ.out,by rw [HL.out];exact HW.out⟩
    case measure=>simp [intOf];omega
  ·obtain rfl:q=s.size:=by omega
   go_wp2
   go_ret
   refine ⟨_,rfl,?_,Below.tr HB2.out HQ.out⟩
   rw [HA.out,if_pos trivial]
   exact HW.out.base HB2.out.size
set_option maxRecDepth 100000 in
set_option maxHeartbeats 2000000 in
theorem ancestors_any (t:Title) (w:World) (hG:Glob w):Calls Tryz.prog 130 #[.agg #[.int .i64 t.space,.string t.name]] w fun e w'=>∃ v,e = .returned v∧OwnL w' w.heap.size 29 v (ancL t)∧Below w.heap.size w w':=by
 have HV:Hid (t.valid=true→t.name.size≤100):=Lib.hid fun h=>by
  simp only [Title.valid,Bool.and_eq_true,decide_eq_true_eq] at h
  omega
 have HA:Hid (ancL t=if t.valid then ancUpto t t.name.size else []):=Lib.hid rfl
 obtain ⟨sp,s⟩:=t
 go_enter Tryz.func130,Tryz.ntmps130
 go_wp2_with fail
 generalize hw1:w.alloc _=w1
 have c0_0:w1.cell? ⟨w.heap.size,0,none⟩=some (.int .i64 sp):=by subst hw1;go_simp
 have c0_1:w1.cell? ⟨w.heap.size,1,none⟩=some (.string s):=by subst hw1;go_simp
 have HB:Hid (Below w.heap.size w w1):=by subst hw1;exact Below.al (Below.refl _ _) _
 clear hw1
 have HF:Hid (∀ W,Below w1.heap.size w1 W→W.cell? ⟨w.heap.size,0,none⟩=some (.int .i64 sp)∧W.cell? ⟨w.heap.size,1,none⟩=some (.string s)):=fun W h=>⟨re1 h (cell_lt c0_0) c0_0,re1 h (cell_lt c0_1) c0_1⟩
 refine (valid_any ⟨sp,s⟩ _ (hG.below HB.out)).mono ?_
 rintro e w2 ⟨rfl,hb2⟩
 try clear c0_0 c0_1
 obtain ⟨c0_0,c0_1⟩:=HF.out _ (hb2)
 have HB2:=Lib.hid (Below.tr HB.out hb2)
 clear hb2 HB HF
 by_cases hv:Title.valid ⟨sp,s⟩=true
 case neg=>
  have hv:Title.valid ⟨sp,s⟩=false:=by simpa using hv
  rw [hv] at HA ⊢
  clear hv HV
  go_wp2
  go_ret
  exact ⟨_,rfl,by rw [HA.out];exact OwnL.nil _ _ _,HB2.out⟩
 have hs:=HV.out hv
 rw [hv] at HA ⊢
 clear hv HV
 go_wp2_with fail
 go_loopw [3,4] (fun l i wr=>∃ q:Nat,q≤s.size∧i = .int .i64 q∧Below w2.heap.size w2 wr∧OwnL wr w2.heap.size 29 l (ancUpto ⟨sp,s⟩ q)) (fun _ i _=>s.size - (intOf i).toNat)
 case atStart=>exact ⟨0,by omega,rfl,Below.refl _ _,OwnL.nil _ _ _⟩
 case round=>
  obtain ⟨q,hq,rfl,hbw,hown⟩:=hrel
  have HQ:=Lib.hid hbw
  have HW:=Lib.hid hown
  have e0:=re1 HQ.out (cell_lt c0_0) c0_0
  have e1:=re1 HQ.out (cell_lt c0_1) c0_1
  clear hbw hown
  by_cases hlt:q<s.size
  ·have b1:(0:Int)≤q:=by omega
   have b2:(q:Int)<(s.size:Int):=by omega
   by_cases h47:(s[q].toNat:Int)=47
   ·have hl:=ancUpto_len ⟨sp,s⟩ q
    have HL:=Lib.hid (ancUpto_yes (t:=⟨sp,s⟩) hlt h47)
    have B3:Hid ((ancUpto ⟨sp,s⟩ q).length+1≤maxLen):=Lib.hid (by unfold maxLen;omega)
    have B4:Hid (((ancUpto ⟨sp,s⟩ q).length+1) * 24≤140737488355328):=Lib.hid (by omega)
    have hg:w2.heap.size≤wr.heap.size:=HQ.out.size
    clear hl
    generalize ancUpto ⟨sp,s⟩ q=L at *
    go_upto_region 8 with fail
    go_region_law (refine step_append_L rfl _ _ 37 rfl okTitles (by decide) (B:=w2.heap.size) (v:=u3) (xs:=L) rfl (by first | exact HW.out.drew.al _ | exact (HW.out.al _).drew) (S:=fun _=>True) (ys:=[(⟨sp,s.extract 0 q⟩:Title)]) rfl (by first | exact SlR.made titleCells (fun _ _ _=>rfl) _ _ (xs:=[(⟨sp,s.extract 0 q⟩:Title)]) rfl rfl (show 1≤9223372036854775807 by omega) rfl | exact SlR.drew (SlR.made titleCells (fun _ _ _=>rfl) _ _ (xs:=[(⟨sp,s.extract 0 q⟩:Title)]) rfl rfl (show 1≤9223372036854775807 by omega) rfl)) (fun _ _ _ h=>h) B3.out B4.out (by simp;omega) ?_;intro v' w' hown hg2 hv')
    all_goals
     go_wp2
     refine ⟨⟨q+1,by omega,by go_num,?_,by rw [HL.out];exact hown⟩,by simp [intOf];omega⟩
     refine Below.grown ?_ hg2 (by simp;omega) (fun j hj=>HW.out.ge hj)
     exact (HQ.out.alloc hg _).drew
   ·have HL:=Lib.hid (ancUpto_no (t:=⟨sp,s⟩) hlt h47)
    go_wp2
    go_roundw
    case rel=>exact ⟨q+1,by omega,by go_num,HQ.out,by rw [HL.out];exact HW.out⟩
    case measure=>simp [intOf];omega
  ·obtain rfl:q=s.size:=by omega
   go_wp2
   go_ret
   refine ⟨_,rfl,?_,Below.tr HB2.out HQ.out⟩
   rw [HA.out,if_pos trivial]
   exact HW.out.base HB2.out.size
end Go.Proofs.YtphibahplgmgfaaGreatDoor
namespace Go.Proofs.YtphibahplgmgfaaGreatDoor
open Go.RowKit
theorem SlR.strCells {w:World} {A:Option Addr} {n c:Nat} {xs:List ByteArray} (h:SlR w A n c xs) (h0:0<n):∃ b off,A=some ⟨b,off,none⟩∧∀ j,j<xs.length→w.cell? ⟨b,off+j,none⟩=some (.string (xs.getD j ByteArray.empty)):=by
 obtain ⟨b,off,css,hA,_,_,hx⟩:=h.2.2.2 h0
 refine ⟨b,off,hA,fun j hj=>?_⟩
 obtain ⟨hR,hc⟩:=hx j xs[j] (List.getElem?_eq_getElem hj)
 have hR':css j = [.string xs[j]]:=hR
 have:=hc 0 _ (by rw [hR'];rfl)
 rw [List.getD_eq_getElem?_getD,List.getElem?_eq_getElem hj,Option.getD_some]
 simpa using this
theorem hasL_contains (L:List ByteArray) (s:ByteArray):Lib.containsS L s=hasL L s:=by
 unfold hasL
 rw [Bool.eq_iff_iff,Lib.containsS_iff,List.any_eq_true]
 exact ⟨fun h=>⟨s,h,by simp⟩,fun ⟨x,hx,he⟩=>by rw [← of_decide_eq_true he];exact hx⟩
theorem contains_any (A:Option Addr) (n c:Nat) (L:List ByteArray) (s:ByteArray) (w:World) (hS:SlR w A n c L):Calls Tryz.prog 82 #[.slice A n c,.string s] w fun e w'=>e = .returned (.bool (hasL L s))∧w'=w:=by
 have hn:=hS.1
 have hle:=hS.le
 rcases Nat.eq_zero_or_pos n with h0 | h0
 ·subst h0
  obtain rfl:L = []:=List.eq_nil_of_length_eq_zero hn.symm
  exact Tryz.slices_Contains_string_empty A c s w
 ·obtain ⟨b,off,rfl,hc⟩:=hS.strCells h0
  refine (Tryz.slices_Contains_string b off n c L s w (by omega) (by omega) hc).mono ?_
  rintro e w' ⟨rfl,rfl⟩
  exact ⟨by rw [List.take_of_length_le (by omega),hasL_contains],rfl⟩
end Go.Proofs.YtphibahplgmgfaaGreatDoor
namespace Go.Proofs.YtphibahplgmgfaaGreatDoor
open Go.RowKit
def matchB (a b:Scope):Bool:=decide (a.kind=b.kind)&&(if a.kind=3 then decide (a.title=b.title) else if a.kind=2 then decide (a.title.space=b.title.space) else true)
theorem match_no {a b:Scope} (h:¬ a.kind=b.kind):matchB a b=false:=by unfold matchB;rw [decide_eq_false h,Bool.false_and]
theorem match_3 {a b:Scope} (h:a.kind=b.kind) (h3:a.kind=3):matchB a b=decide (a.title=b.title):=by unfold matchB;rw [decide_eq_true h,if_pos h3,Bool.true_and]
theorem match_2 {a b:Scope} (h:a.kind=b.kind) (h3:a.kind=2):matchB a b=decide (a.title.space=b.title.space):=by unfold matchB;rw [decide_eq_true h,if_neg (by omega),if_pos h3,Bool.true_and]
theorem match_1 {a b:Scope} (h:a.kind=b.kind) (h3:¬ a.kind=3) (h2:¬ a.kind=2):matchB a b=true:=by unfold matchB;rw [decide_eq_true h,if_neg h3,if_neg h2,Bool.true_and]
set_option maxRecDepth 100000 in
set_option maxHeartbeats 1000000 in
theorem matches_any (a b:Scope) (w:World):Calls Tryz.prog 91 #[.agg #[.int .i64 a.kind,.int .i64 a.title.space,.string a.title.name],.agg #[.int .i64 b.kind,.int .i64 b.title.space,.string b.title.name]] w fun e w'=>e = .returned (.bool (matchB a b))∧Below w.heap.size w w':=by
 have HD:Hid (∀ x y:Title,x=y↔x.space=y.space∧x.name.toList=y.name.toList):=Lib.hid fun x y=>by
  obtain ⟨x1,x2⟩:=x
  obtain ⟨y1,y2⟩:=y
  simp only [Title.mk.injEq,toList_iff]
 have HB:Hid (∀ o1 o2,Below w.heap.size w ((w.alloc o1).alloc o2)):=Lib.hid fun o1 o2=>Below.al (Below.al (Below.refl _ _) _) _
 go_enter Tryz.func91,Tryz.ntmps91
 go_wp2
 all_goals (try simp only [beq_iff_eq,beq_eq_false_iff_ne,bne_iff_ne,bne_eq_false_iff_eq,ne_eq] at *)
 all_goals
  go_ret
  refine ⟨ret_bool ?_,HB.out _ _⟩
  first
  | (rw [match_no (by assumption)];done)
  | (rw [match_1 (by assumption) (by assumption) (by assumption)];done)
  | (rw [match_2 (by assumption) (by assumption)];first | rfl | simp_all)
  | (rw [match_3 (by assumption) (by assumption)];refine (decide_eq_true ?_).symm;rw [HD.out];constructor<;>assumption)
  | (rw [match_3 (by assumption) (by assumption)];refine (decide_eq_false ?_).symm;rw [HD.out];rintro ⟨h1,h2⟩;first | (exact absurd h1 (by assumption)) | (exact absurd h2 (by assumption)))
set_option maxRecDepth 100000 in
set_option maxHeartbeats 1000000 in
theorem covers_any (a b:Scope) (w:World):Calls Tryz.prog 88 #[.agg #[.int .i64 a.kind,.int .i64 a.title.space,.string a.title.name],.agg #[.int .i64 b.kind,.int .i64 b.title.space,.string b.title.name]] w fun e w'=>e = .returned (.bool (matchB a b))∧Below w.heap.size w w':=by
 have HD:Hid (∀ x y:Title,x=y↔x.space=y.space∧x.name.toList=y.name.toList):=Lib.hid fun x y=>by
  obtain ⟨x1,x2⟩:=x
  obtain ⟨y1,y2⟩:=y
  simp only [Title.mk.injEq,toList_iff]
 have HB:Hid (∀ o1 o2,Below w.heap.size w ((w.alloc o1).alloc o2)):=Lib.hid fun o1 o2=>Below.al (Below.al (Below.refl _ _) _) _
 go_enter Tryz.func88,Tryz.ntmps88
 go_wp2
 all_goals (try simp only [beq_iff_eq,beq_eq_false_iff_ne,bne_iff_ne,bne_eq_false_iff_eq,ne_eq] at *)
 all_goals
  go_ret
  refine ⟨ret_bool ?_,HB.out _ _⟩
  first
  | (rw [match_no (by assumption)];done)
  | (rw [match_1 (by assumption) (by assumption) (by assumption)];done)
  | (rw [match_2 (by assumption) (by assumption)];first | rfl | simp_all)
  | (rw [match_3 (by assumption) (by assumption)];refine (decide_eq_true ?_).symm;rw [HD.out];constructor<;>assumption)
  | (rw [match_3 (by assumption) (by assumption)];refine (decide_eq_false ?_).symm;rw [HD.out];rintro ⟨h1,h2⟩;first | (exact absurd h1 (by assumption)) | (exact absurd h2 (by assumption)))
end Go.Proofs.YtphibahplgmgfaaGreatDoor
namespace Go.Proofs.YtphibahplgmgfaaGreatDoor
open VL Go.RowKit
theorem valid_c (t:Title):Contract0 Tryz.prog 86 [t.pv] (.bool t.valid):=
 contract_plain (vals:=[.agg #[.int .i64 t.space,.string t.name]]) (by kernel_rfl) rfl rfl (fun x=>.bool _) fun w hw=>valid_any t w hw.1
theorem refValid_c (t:Title):Contract0 Tryz.prog 57 [t.pv] (.bool t.valid):=
 contract_plain (vals:=[.agg #[.int .i64 t.space,.string t.name]]) (by kernel_rfl) rfl rfl (fun x=>.bool _) fun w _=>refValid_any t w
theorem args2 {x:Ctx} {p q:PV} {vs:Array Value} (h:Pre x [p,q] none vs):∃ v w,vs = #[v,w]∧Rep x p v∧Rep x q w:=by
 have hs:vs.size=2:=h.size.symm
 refine ⟨vs[0],vs[1],?_,h.rep 0 p _ rfl (Array.getElem?_eq_getElem (by omega)),h.rep 1 q _ rfl (Array.getElem?_eq_getElem (by omega))⟩
 apply Array.ext
 ·exact hs
 ·intro i h1 h2
  match i,(show i<2 by omega) with
  | 0,_=>rfl
  | 1,_=>rfl
theorem str_rep {x:Ctx} {s:ByteArray} {v:Value} (h:Rep x (.str s) v):v = .string s:=by cases h;rfl
theorem has_c (L:List ByteArray) (s:ByteArray):Contract0 Tryz.prog 90 [strsV L,.str s] (.bool (hasL L s)):=
 contract_world (by kernel_rfl) rfl (fun x=>.bool _) fun x vs hp _=>by
  obtain ⟨v,w,rfl,h1,h2⟩:=args2 hp
  obtain rfl:=str_rep h2
  obtain ⟨A,n,c,rfl,hS⟩:=strs_of_rep hp.flt h1
  exact (refHas_any A n c L s x.W hS).mono fun e w' ⟨e1,e2⟩=>⟨e1,e2 ▸ Below.refl _ _⟩
theorem contains_c (L:List ByteArray) (s:ByteArray):Contract0 Tryz.prog 82 [strsV L,.str s] (.bool (hasL L s)):=
 contract_world (by kernel_rfl) rfl (fun x=>.bool _) fun x vs hp _=>by
  obtain ⟨v,w,rfl,h1,h2⟩:=args2 hp
  obtain rfl:=str_rep h2
  obtain ⟨A,n,c,rfl,hS⟩:=strs_of_rep hp.flt h1
  exact (contains_any A n c L s x.W hS).mono fun e w' ⟨e1,e2⟩=>⟨e1,e2 ▸ Below.refl _ _⟩
theorem refMatches_c (a b:Scope):Contract0 Tryz.prog 91 [a.pv,b.pv] (.bool (matchB a b)):=
 contract_plain (vals:=[.agg #[.int .i64 a.kind,.int .i64 a.title.space,.string a.title.name],.agg #[.int .i64 b.kind,.int .i64 b.title.space,.string b.title.name]]) (by kernel_rfl) rfl rfl (fun x=>.bool _) fun w _=>matches_any a b w
theorem covers_c (a b:Scope):Contract0 Tryz.prog 88 [a.pv,b.pv] (.bool (matchB a b)):=
 contract_plain (vals:=[.agg #[.int .i64 a.kind,.int .i64 a.title.space,.string a.title.name],.agg #[.int .i64 b.kind,.int .i64 b.title.space,.string b.title.name]]) (by kernel_rfl) rfl rfl (fun x=>.bool _) fun w _=>covers_any a b w
end Go.Proofs.YtphibahplgmgfaaGreatDoor
namespace Go.Proofs.YtphibahplgmgfaaGreatDoor
open VL
set_option linter.unusedVariables false
def r12_IsName (s:ByteArray):Option Bool:=some (isName s)
theorem r12_IsName_c (s:ByteArray) (r:Bool) (h:r12_IsName s=some r):Contract0 Tryz.prog 59 [.str s] (.bool r):=by cases h;exact isNameR_c s
def policy_IsName (s:ByteArray):Option Bool:=some (isName s)
theorem policy_IsName_c (s:ByteArray) (r:Bool) (h:policy_IsName s=some r):Contract0 Tryz.prog 81 [.str s] (.bool r):=by cases h;exact isNameP_c s
def r1_Valid (t:Title):Option Bool:=some t.valid
theorem r1_Valid_c (t:Title) (r:Bool) (h:r1_Valid t=some r):Contract0 Tryz.prog 57 [t.pv] (.bool r):=by cases h;exact refValid_c t
def title_Valid (t:Title):Option Bool:=some t.valid
theorem title_Valid_c (t:Title) (r:Bool) (h:title_Valid t=some r):Contract0 Tryz.prog 86 [t.pv] (.bool r):=by cases h;exact valid_c t
def r13_Has (L:List ByteArray) (s:ByteArray):Option Bool:=some (hasL L s)
theorem r13_Has_c (L:List ByteArray) (s:ByteArray) (r:Bool) (h:r13_Has L s=some r):Contract0 Tryz.prog 90 [.sl (List.map csS L),.str s] (.bool r):=by cases h;exact has_c L s
def slices_Contains_string (L:List ByteArray) (s:ByteArray):Option Bool:=some (hasL L s)
theorem slices_Contains_string_c (L:List ByteArray) (s:ByteArray) (r:Bool) (h:slices_Contains_string L s=some r):Contract0 Tryz.prog 82 [.sl (List.map csS L),.str s] (.bool r):=by cases h;exact contains_c L s
def r1_Compare (a b:Title):Option Int:=some (Title.cmp a b)
theorem r1_Compare_c (a b:Title) (r:Int) (h:r1_Compare a b=some r):Contract0 Tryz.prog 58 [a.pv,b.pv] (.int .i64 r):=by
 cases h
 exact contract_plain (vals:=[.agg #[.int .i64 a.space,.string a.name],.agg #[.int .i64 b.space,.string b.name]]) (by kernel_rfl) rfl rfl (fun x=>.int _ _) fun w _=>refTitleCompare_any a b w
end Go.Proofs.YtphibahplgmgfaaGreatDoor
namespace Go.Proofs.YtphibahplgmgfaaGreatDoor
namespace VL
open Go.RowKit Go.Sort
section
variable {α:Type} [Inhabited α]
theorem flatK_list (enc:α→List Value) (k:Nat) (hk:∀ x,(enc x).length=k) (M:List α):(flatK enc k M.toArray).toList=M.flatMap enc:=by
 have hlen:(M.flatMap enc).length=M.length * k:=by
  induction M with
  | nil=>simp
  | cons x M ih=>simp [List.flatMap_cons,hk,ih,Nat.succ_mul];omega
 apply List.ext_getElem?
 intro t
 by_cases ht:t<M.length * k
 ·have hk0:0<k:=by rcases Nat.eq_zero_or_pos k with h | h
                   ·subst h;simp at ht
                   ·exact h
  have hi:t / k<M.length:=Nat.div_lt_of_lt_mul (by rw [Nat.mul_comm];exact ht)
  have hj:t % k<k:=Nat.mod_lt _ hk0
  have e:=flat_get enc k hk M (t / k) M[t / k] (t % k) ((enc M[t / k])[t % k]'(by rw [hk];exact hj)) (List.getElem?_eq_getElem hi) (List.getElem?_eq_getElem (by rw [hk];exact hj))
  rw [Nat.mul_comm (t / k) k,Nat.div_add_mod] at e
  rw [e]
  have h1:t<(flatK enc k M.toArray).size:=by rw [size_flatK];simpa using ht
  have h2:=get_flatK enc k M.toArray t (by simpa using ht)
  rw [getElem!_pos _ t h1] at h2
  rw [Array.getElem?_toList,Array.getElem?_eq_getElem h1,h2,getElem!_pos M.toArray (t / k) (by simpa using hi)]
  simp only [List.getElem_toArray]
  rw [getElem!_pos (enc M[t / k]) (t % k) (by rw [hk];exact hj)]
 ·rw [List.getElem?_eq_none (l:=(flatK enc k M.toArray).toList) (by simp;omega),List.getElem?_eq_none (l:=M.flatMap enc) (by rw [hlen];omega)]
theorem holdsK_own (enc:α→List Value) (k:Nat) (hk:∀ x,(enc x).length=k) {w:World} {g:Nat} {cur:Array Value} {E:TypeId} {L:List α} (hb:w.heap[g]? = some (.cells cur E (0,0))) (ht:cur.toList.take (L.length * k)=L.flatMap enc):HoldsK enc k w g 0 L.toArray:=by
 intro j hj
 have hj':j<L.length * k:=by simpa using hj
 refine ⟨?_,by simp [World.frozen?,hb]⟩
 have h1:(cur.toList.take (L.length * k))[j]? = (flatK enc k L.toArray).toList[j]?:=by rw [ht,flatK_list enc k hk]
 rw [List.getElem?_take_of_lt hj'] at h1
 simp only [World.cell?,hb,Nat.zero_add]
 simp only [Option.isSome_none,Bool.false_eq_true,if_false]
 rw [← Array.getElem?_toList,h1,Array.getElem?_toList,Array.getElem?_eq_getElem hj,getElem!_pos _ j hj]
 rfl
theorem own_putRowK (enc:α→List Value) (k:Nat) (hk:∀ x,(enc x).length=k) {w:World} {g cap n:Nat} {cur:Array Value} {E:TypeId} {M:List α} (hb:w.heap[g]? = some (.cells cur E (0,0))) (h1:M.length≤cap) (h2:cap≤maxLen) (h3:cur.size=cap * k) :
  (putRowK enc k (Sort.ahead w n) g 0 M.toArray).ownsRow 0 E k (.slice (some ⟨g,0,none⟩) M.length cap) M.length (M.flatMap enc)∧Gr (fun b=>blk (.slice (some ⟨g,0,none⟩) M.length cap)=some b) w (putRowK enc k (Sort.ahead w n) g 0 M.toArray):=by
 have hg:g<w.heap.size:=(Array.getElem?_eq_some_iff.1 hb).1
 have hh:(putRowK enc k (Sort.ahead w n) g 0 M.toArray).heap[g]? = some (.cells (putCells id 0 (flatK enc k M.toArray) cur) E (0,0)):=by
  simp [putRowK,putRow,mapBlock,Sort.ahead,Array.getElem?_modify,hb,onCells]
 have hlen:(M.flatMap enc).length=M.length * k:=by rw [← flatK_list enc k hk M];simp
 refine ⟨⟨hlen,.inr ⟨g,cap,_,rfl,Nat.zero_le _,hh,h1,h2,by simp [putCells,h3],?_⟩⟩,rfl,rfl,rfl,by simp [putRowK,putRow,mapBlock,Sort.ahead],fun b hb' hne=>?_⟩
 ·rw [← flatK_list enc k hk M]
  have hle:M.length * k≤cur.size:=by rw [h3];exact Nat.mul_le_mul_right _ h1
  apply List.ext_getElem?
  intro j
  by_cases hj:j<M.length * k
  ·rw [List.getElem?_take_of_lt hj,Array.getElem?_toList,Array.getElem?_toList]
   simp [putCells,hj,show j<cur.size by omega]
  ·rw [List.getElem?_take_eq_none (by omega),List.getElem?_eq_none (by simp;omega)]
 ·have:g≠b:=fun e=>hne (by rw [e];rfl)
  simp [putRowK,putRow,mapBlock,Sort.ahead,Array.getElem?_modify,this]
end
theorem plainL_append:∀ {a b:List PV} {va vb:List Value},plainL a=some va→plainL b=some vb→plainL (a++b)=some (va++vb)
 | [],b,va,vb,h,k=>by
   injection h with h
   subst h
   exact k
 | p::a,b,va,vb,h,k=>by
   simp only [plainL] at h
   split at h
   ·rename_i v vs h1 h2
    injection h with h
    subst h
    simp only [List.cons_append,plainL]
    rw [h1,plainL_append h2 k]
   ·cases h
theorem plainL_flat {α:Type} {cs:α→List PV} {enc:α→List Value} (h:∀ x,plainL (cs x)=some (enc x)):∀ (xs:List α),plainL (xs.map cs).flatten=some (xs.flatMap enc)
 | []=>rfl
 | x::xs=>by
   rw [List.map_cons,List.flatten_cons,List.flatMap_cons]
   exact plainL_append (h x) (plainL_flat h xs)
section
variable {P:Program} [WInv P]
theorem contractN_own3 {α:Type} [Enc α] [EncPV α] {f:FuncId} {args:List PV} {vals:List Value} {E:TypeId} {xs:List α} {enc:α→List Value} (hg:isGo P f=true) (hp:∀ (x:Ctx) (vs:Array Value),Pre x args none vs→vs=vals.toArray) (hpl:∀ x:α,plainL (EncPV.cs x)=some (enc x))
  (hE:∀ (S:Nat→Prop) (w:World) (x:α) (cs:List Value),Enc.R S w x cs→cs=enc x) (hk:∀ x:α,(EncPV.cs x).length=Enc.k α)
  (h:∀ w,(∀ W,Below w.heap.size w W→WInv.I P W)→Calls P f vals.toArray w fun e w'=>∃ v,e = .returned v∧OwnL w' w.heap.size E v xs∧Below w.heap.size w w'):ContractN P f args (.row E (Enc.k α) false (xs.map EncPV.cs)):=by
 refine ⟨hg,fun cs h=>(by cases h),fun x vs hpre hI=>?_⟩
 obtain rfl:vs=vals.toArray:=hp x vs hpre
 refine (h x.W fun W hW=>hI W ⟨hW.os,hW.tape,hW.output,hW.size,fun b hb _=>hW.block b hb⟩).mono ?_
 rintro _ w' ⟨v,rfl,⟨css,hl,hown,hR⟩,hb⟩
 let y:Ctx:=⟨fun g=>g=(0,0),x.F,w',fun _=>v⟩
 have hcss:css.flatten=xs.flatMap enc:=by
  have:css=xs.map enc:=by
   apply List.ext_getElem?
   intro i
   by_cases hi:i<xs.length
   ·have h1:xs[i]? = some xs[i]:=List.getElem?_eq_getElem hi
    have h2:css[i]? = some css[i]:=List.getElem?_eq_getElem (by omega)
    rw [h2,List.getElem?_map,h1,hE _ _ _ _ (hR i _ _ h1 h2)]
    rfl
   ·rw [List.getElem?_eq_none (by omega),List.getElem?_eq_none (by simp;omega)]
  rw [this]
  rfl
 have hpure:∀ e ∈ xs.map EncPV.cs,∀ p ∈ e,p.pure=true:=fun e he p hpm=>by
  obtain ⟨z,_,rfl⟩:=List.mem_map.1 he
  obtain ⟨j,hj⟩:=List.getElem?_of_mem hpm
  have:=plainL_at (hpl z) hj
  obtain ⟨r,_,_⟩:=this
  have:∀ (l:List PV) {vs:List Value},plainL l=some vs→∀ p ∈ l,p.pure=true:=fun l=>by
   induction l with
   | nil=>intro vs _ p hp;cases hp
   | cons q l ih=>
     intro vs hq p hp
     simp only [plainL] at hq
     split at hq
     ·rename_i v1 vs1 h1 h2
      rcases List.mem_cons.1 hp with rfl | hp
      ·cases p<;>simp_all [plain1,PV.pure]
      ·exact ih h2 p hp
     ·cases hq
  exact this _ (hpl z) p hpm
 refine ⟨y,v,rfl,rfl,⟨fun g hg=>?_,fun _ _ h=>h,fun b o v hF hv=>(World.cell?_of_block (hb.block b (hpre.flt b o hF))).trans hv⟩,Gr.ofBelow hb,fun _ _ h=>.inl h,fun b o hF=>Nat.lt_of_lt_of_le (hpre.flt b o hF) hb.size,(0,0),rfl,fun e he=>?_,hpure,css.flatten,?_,fun m p w hm hw=>?_,fun b hbk=>?_⟩
 ·obtain ⟨j,os,h,_⟩:=hpre.gen g hg
  cases h
 ·obtain ⟨z,_,rfl⟩:=List.mem_map.1 he
  exact hk z
 ·rw [List.length_map]
  exact ⟨hown.1,hown.2.imp id fun ⟨g,cap,cur,h1,h2,h3⟩=>⟨g,cap,cur,h1,Nat.zero_le _,h3⟩⟩
 ·obtain ⟨r,h1,h2⟩:=plainL_at (plainL_flat hpl xs) hm
  rw [hcss,h1] at hw
  injection hw with hw
  subst hw
  rw [← h2]
  exact rep_const y r
 ·have hB:x.W.heap.size≤b:=by
   change blk v=some b at hbk
   rcases hown.2 with ⟨hn,_⟩ | ⟨b',cap,cur,hv,hB,_⟩
   ·rw [hn] at hbk
    simp [blk] at hbk
   ·rw [hv] at hbk
    obtain rfl:b'=b:=by simpa [blk] using hbk
    exact hB
  exact ⟨.inl hB,fun o hF=>by
   have h1:=hpre.flt b o hF
   omega⟩
theorem contractN_own2 {α:Type} [Enc α] [EncPV α] {f:FuncId} {args:List PV} {vals:List Value} {E:TypeId} {xs:List α} {enc:α→List Value} (hg:isGo P f=true) (hp:∀ (x:Ctx) (vs:Array Value),Pre x args none vs→vs=vals.toArray) (hpl:∀ x:α,plainL (EncPV.cs x)=some (enc x))
  (hE:∀ (S:Nat→Prop) (w:World) (x:α) (cs:List Value),Enc.R S w x cs→cs=enc x) (hk:∀ x:α,(EncPV.cs x).length=Enc.k α)
  (h:∀ w,WInv.I P w→Calls P f vals.toArray w fun e w'=>∃ v,e = .returned v∧OwnL w' w.heap.size E v xs∧Below w.heap.size w w'):ContractN P f args (.row E (Enc.k α) false (xs.map EncPV.cs)):=
 contractN_own3 hg hp hpl hE hk fun w hw=>h w (hw w (Below.refl _ _))
theorem contractN_own {α:Type} [Enc α] [EncPV α] {f:FuncId} {args:List PV} {vals:List Value} {E:TypeId} {xs:List α} {enc:α→List Value} (hg:isGo P f=true) (hp:plainA args=some vals) (hpl:∀ x:α,plainL (EncPV.cs x)=some (enc x))
  (hE:∀ (S:Nat→Prop) (w:World) (x:α) (cs:List Value),Enc.R S w x cs→cs=enc x) (hk:∀ x:α,(EncPV.cs x).length=Enc.k α)
  (h:∀ w,WInv.I P w→Calls P f vals.toArray w fun e w'=>∃ v,e = .returned v∧OwnL w' w.heap.size E v xs∧Below w.heap.size w w'):ContractN P f args (.row E (Enc.k α) false (xs.map EncPV.cs)):=by
 refine contractN_own2 (vals:=vals) hg (fun x vs hpre=>?_) hpl hE hk h
 have e:vs.toList=vals:=plainA_rep args hp vs.toList (by simpa using hpre.size) fun i p v hp hv=>hpre.rep i p v hp (by simpa using hv)
 rw [← e]
end
end VL
end Go.Proofs.YtphibahplgmgfaaGreatDoor
