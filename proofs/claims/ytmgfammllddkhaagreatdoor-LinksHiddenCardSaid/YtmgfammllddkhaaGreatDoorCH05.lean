/- Titles: the words ahead of a colon that name a namespace. | Titles: which bytes names may have; which titles are valid. | The reference's small functions on titles: an index, letters without their case, the words ahead of a colon. | The reference's words ahead of a colon. | A slice of strings that the call itself made: reading and storing an element. No program is named. | The reference's Parts: a text divided at each slash. | Plain laws: the reference's Parts and prefixed say what strings.Split and title.prefix say. -/
import Derived.Test.YtmgfammllddkhaaGreatDoorCH04
import Derived.Test.YtmgfammllddkhaaGreatDoorCH03
import Derived.Lib.IndexEntry
import Derived.Test.YtmgfammllddkhaaGreatDoorCH01
import Derived.Laws.OwnMore
import Derived.Lib.IndexBytes
namespace Go.Proofs.YtmgfammllddkhaaGreatDoor
open Go.RowKit
def ZrD (w:World):Prop:=∃ m,w.cell? ⟨0,0,none⟩=some (.int .i64 m)
theorem Zr7 (s sep:List UInt8):(Lib.cut s sep).1.length≤s.length:=by
 unfold Lib.cut
 split
 ·simp;omega
 ·exact Nat.le_refl _
theorem Zkb (s p:List UInt8):(Lib.trimSuffix s p).length≤s.length:=by
 unfold Lib.trimSuffix
 split
 ·rw [List.length_take];omega
 ·exact Nat.le_refl _
def Zd8 (n:List UInt8):Int:=
 if n = [116,97,108,107] then 1 else if n = [117,115,101,114] then 2 else if n = [116,101,109,112,108,97,116,101] then 3 else if n = [99,97,116,101,103,111,114,121] then 4 else if n = [112,114,111,106,101,99,116] then 5 else 0
def Zd9 (s:List UInt8):Option (Int×List UInt8):=
 if (Lib.cut s [58]).2.2=true∧Zd8 (Zca (Lib.trimSuffix (Lib.cut s [58]).1 [32]))≠0 then some (Zd8 (Zca (Lib.trimSuffix (Lib.cut s [58]).1 [32])),(Lib.cut s [58]).2.1) else none
def Zg0 (s:List UInt8):Value:=match Zd9 s with
 | some (n,r)=>.tuple #[.int .i64 n,.string ⟨r.toArray⟩,.bool true]
 | none=>.tuple #[.int .i64 0,.string ⟨#[]⟩,.bool false]
set_option maxHeartbeats 400000 in
theorem ZmZ (w:World):Calls Tryz.prog 196 #[] w fun e w'=>e = .returned (.agg #[.string ⟨#[]⟩,.string ⟨#[84,97,108,107]⟩,.string ⟨#[85,115,101,114]⟩,.string ⟨#[84,101,109,112,108,97,116,101]⟩,.string ⟨#[67,97,116,101,103,111,114,121]⟩,.string ⟨#[80,114,111,106,101,99,116]⟩])∧Below w.heap.size w w':=by
 go_enter Tryz.func196,Tryz.ntmps196
 go_wp2
 exact bodyPost_ret (v:=.agg #[.string ⟨#[]⟩,.string ⟨#[84,97,108,107]⟩,.string ⟨#[85,115,101,114]⟩,.string ⟨#[84,101,109,112,108,97,116,101]⟩,.string ⟨#[67,97,116,101,103,111,114,121]⟩,.string ⟨#[80,114,111,106,101,99,116]⟩]) (by simp [results,Tryz.results196,go_sem]) rfl ⟨rfl,Below.al (Below.refl _ _) _⟩
def Zbx (q:Nat):List UInt8:=match q with | 1=>[116,97,108,107] | 2=>[117,115,101,114] | 3=>[116,101,109,112,108,97,116,101] | 4=>[99,97,116,101,103,111,114,121] | 5=>[112,114,111,106,101,99,116] | _=>[]
theorem ZkZ (n:List UInt8) (h:∀ j,1≤j→j<6→n≠Zbx j):Zd8 n=0:=by
 have h1:=h 1 (by decide) (by decide)
 have h2:=h 2 (by decide) (by decide)
 have h3:=h 3 (by decide) (by decide)
 have h4:=h 4 (by decide) (by decide)
 have h5:=h 5 (by decide) (by decide)
 simp only [Zbx] at h1 h2 h3 h4 h5
 simp only [Zd8,h1,h2,h3,h4,h5,if_false]
set_option maxRecDepth 100000 in
set_option maxHeartbeats 1000000 in
theorem Zg1 (s:ByteArray) (w:World) (hs:s.size<4294967281) (hG:ZrD w):Calls Tryz.prog 155 #[.string s] w fun e w'=>e = .returned (Zg0 s.data.toList)∧Below w.heap.size w w':=by
 obtain ⟨m,hm⟩:=hG
 have HF:Hid (Zg0 s.data.toList=match Zd9 s.data.toList with
  | some (n,r)=>.tuple #[.int .i64 n,.string ⟨r.toArray⟩,.bool true]
  | none=>.tuple #[.int .i64 0,.string ⟨#[]⟩,.bool false]):=Lib.hid rfl
 unfold Zd9 at HF
 have hl1:(Lib.cut s.data.toList [58]).1.length≤s.data.toList.length:=Zr7 _ _
 go_enter Tryz.func155,Tryz.ntmps155
 go_wp2_with fail
 refine (Tryz.strings_Cut s _ m _ hs hm).mono ?_
 rintro e w1 ⟨rfl,n1,rfl⟩
 rw [show (⟨#[58]⟩:ByteArray).data.toList = [58] from rfl]
 generalize Lib.cut s.data.toList [58]=C at *
 obtain ⟨b,a,ok⟩:=C
 cases ok
 ·go_wp2
  go_ret3
  exact ⟨by rw [HF.out];simp,Below.dn (Below.refl _ _) _⟩
 ·go_wp2_with fail
  refine (Tryz.strings_TrimSuffix _ _ _ (by have:=s.data.toList.length;simp only [ByteArray.size,Array.length_toList,List.size_toArray] at hl1 hs ⊢;omega)).mono ?_
  rintro e w1 ⟨rfl,rfl⟩
  go_wp2_with fail
  refine (Zfr _ _ (by have h2:=Zkb b [32];simp only [ByteArray.size,Array.length_toList,List.size_toArray] at hl1 hs h2 ⊢;omega)).mono ?_
  rintro e w1 ⟨rfl,hb1⟩
  go_wp2_with fail
  refine (ZmZ _).mono ?_
  rintro e w2 ⟨rfl,hb2⟩
  have HB:=Lib.hid (Below.tr (Below.tr (Below.dn (Below.refl _ _) _) hb1) hb2)
  clear hb1 hb2 hm hs hl1
  generalize Zca (Lib.trimSuffix b [32])=N at *
  simp only [true_and] at HF
  go_wp2_with fail
  go_loopw [23] (fun i wr=>∃ z:Int,0≤z∧z≤6∧i = .int .i64 z∧Below w2.heap.size w2 wr∧Hid (∀ j:Nat,1≤j→(j:Int)<z→N≠Zbx j)) (fun i _=>6 - (intOf i).toNat)
  case atStart=>exact ⟨0,by omega,by omega,rfl,Below.refl _ _,fun j _ h=>absurd h (by omega)⟩
  case round=>
   obtain ⟨z,hz0,hz6,rfl,hbw,hno⟩:=hrel
   have HQ:=Lib.hid hbw
   clear hbw
   by_cases h6:z=6
   ·subst h6
    have hz:Zd8 N=0:=ZkZ N fun j h1 h2=>hno.out j h1 (by omega)
    rw [hz] at HF
    clear hz
    go_wp2
    go_ret3
    exact ⟨by rw [HF.out];simp,Below.tr HB.out HQ.out⟩
   ·have hq6:z=0∨z=1∨z=2∨z=3∨z=4∨z=5:=by omega
    clear h6 hz0 hz6
    have ix:∀ w (z:Int) (x:Value),(#[Value.string { data:=#[] },Value.string { data:=#[84,97,108,107] },Value.string { data:=#[85,115,101,114] },Value.string { data:=#[84,101,109,112,108,97,116,101] },Value.string { data:=#[67,97,116,101,103,111,114,121] },Value.string { data:=#[80,114,111,106,101,99,116] }]:Array Value)[z.toNat]? = some x→0≤z→z<6→
     (Instr.index 202 (.agg #[Value.string { data:=#[] },Value.string { data:=#[84,97,108,107] },Value.string { data:=#[85,115,101,114] },Value.string { data:=#[84,101,109,112,108,97,116,101] },Value.string { data:=#[67,97,116,101,103,111,114,121] },Value.string { data:=#[80,114,111,106,101,99,116] }]) (.int .i64 z)).run Tryz.prog w = .ok x w:=by
     intro w z x h h0 h6
     obtain rfl | rfl | rfl | rfl | rfl | rfl:z=0∨z=1∨z=2∨z=3∨z=4∨z=5:=by omega
     all_goals
      (simp at h;subst h;kernel_rfl)
    rcases hq6 with rfl | rfl | rfl | rfl | rfl | rfl
    ·have i0:=fun w=>ix w 0 _ rfl (by decide) (by decide)
     clear ix
     go_wp2
     go_roundw
     case rel=>exact ⟨1,by omega,by omega,rfl,HQ.out,fun j h1 h2=>absurd h2 (by omega)⟩
     case measure=>simp [intOf]
    ·have i0:=fun w=>ix w 1 _ rfl (by decide) (by decide)
     clear ix
     go_wp2_with (go_at_call 195;refine (Zfr _ _ (by decide)).mono ?_;rintro e w5 ⟨rfl,hb5⟩)
     ·have h:(N == Zca [84,97,108,107])=true:=by assumption
      have hN:N=Zbx 1:=(beq_iff_eq.1 h).trans (by decide)
      have hz:Zd8 N=1:=by rw [hN];decide
      go_ret3
      exact ⟨by rw [HF.out,hz];simp,Below.tr HB.out (Below.tr HQ.out hb5)⟩
     ·go_roundw
      case rel=>
       have h:(N == Zca [84,97,108,107])=false:=by assumption
       have hN:N≠Zbx 1:=fun e=>beq_eq_false_iff_ne.1 h (e.trans (by decide))
       refine ⟨1+1,by omega,by omega,rfl,Below.tr HQ.out hb5,fun j h1 h2=>?_⟩
       rcases Nat.lt_or_ge j 1 with hj | hj
       ·exact hno.out j h1 (by omega)
       ·obtain rfl:j=1:=by omega
        exact hN
      case measure=>simp [intOf]
    ·have i0:=fun w=>ix w 2 _ rfl (by decide) (by decide)
     clear ix
     go_wp2_with (go_at_call 195;refine (Zfr _ _ (by decide)).mono ?_;rintro e w5 ⟨rfl,hb5⟩)
     ·have h:(N == Zca [85,115,101,114])=true:=by assumption
      have hN:N=Zbx 2:=(beq_iff_eq.1 h).trans (by decide)
      have hz:Zd8 N=2:=by rw [hN];decide
      go_ret3
      exact ⟨by rw [HF.out,hz];simp,Below.tr HB.out (Below.tr HQ.out hb5)⟩
     ·go_roundw
      case rel=>
       have h:(N == Zca [85,115,101,114])=false:=by assumption
       have hN:N≠Zbx 2:=fun e=>beq_eq_false_iff_ne.1 h (e.trans (by decide))
       refine ⟨2+1,by omega,by omega,rfl,Below.tr HQ.out hb5,fun j h1 h2=>?_⟩
       rcases Nat.lt_or_ge j 2 with hj | hj
       ·exact hno.out j h1 (by omega)
       ·obtain rfl:j=2:=by omega
        exact hN
      case measure=>simp [intOf]
    ·have i0:=fun w=>ix w 3 _ rfl (by decide) (by decide)
     clear ix
     go_wp2_with (go_at_call 195;refine (Zfr _ _ (by decide)).mono ?_;rintro e w5 ⟨rfl,hb5⟩)
     ·have h:(N == Zca [84,101,109,112,108,97,116,101])=true:=by assumption
      have hN:N=Zbx 3:=(beq_iff_eq.1 h).trans (by decide)
      have hz:Zd8 N=3:=by rw [hN];decide
      go_ret3
      exact ⟨by rw [HF.out,hz];simp,Below.tr HB.out (Below.tr HQ.out hb5)⟩
     ·go_roundw
      case rel=>
       have h:(N == Zca [84,101,109,112,108,97,116,101])=false:=by assumption
       have hN:N≠Zbx 3:=fun e=>beq_eq_false_iff_ne.1 h (e.trans (by decide))
       refine ⟨3+1,by omega,by omega,rfl,Below.tr HQ.out hb5,fun j h1 h2=>?_⟩
       rcases Nat.lt_or_ge j 3 with hj | hj
       ·exact hno.out j h1 (by omega)
       ·obtain rfl:j=3:=by omega
        exact hN
      case measure=>simp [intOf]
    ·have i0:=fun w=>ix w 4 _ rfl (by decide) (by decide)
     clear ix
     go_wp2_with (go_at_call 195;refine (Zfr _ _ (by decide)).mono ?_;rintro e w5 ⟨rfl,hb5⟩)
     ·have h:(N == Zca [67,97,116,101,103,111,114,121])=true:=by assumption
      have hN:N=Zbx 4:=(beq_iff_eq.1 h).trans (by decide)
      have hz:Zd8 N=4:=by rw [hN];decide
      go_ret3
      exact ⟨by rw [HF.out,hz];simp,Below.tr HB.out (Below.tr HQ.out hb5)⟩
     ·go_roundw
      case rel=>
       have h:(N == Zca [67,97,116,101,103,111,114,121])=false:=by assumption
       have hN:N≠Zbx 4:=fun e=>beq_eq_false_iff_ne.1 h (e.trans (by decide))
       refine ⟨4+1,by omega,by omega,rfl,Below.tr HQ.out hb5,fun j h1 h2=>?_⟩
       rcases Nat.lt_or_ge j 4 with hj | hj
       ·exact hno.out j h1 (by omega)
       ·obtain rfl:j=4:=by omega
        exact hN
      case measure=>simp [intOf]
    ·have i0:=fun w=>ix w 5 _ rfl (by decide) (by decide)
     clear ix
     go_wp2_with (go_at_call 195;refine (Zfr _ _ (by decide)).mono ?_;rintro e w5 ⟨rfl,hb5⟩)
     ·have h:(N == Zca [80,114,111,106,101,99,116])=true:=by assumption
      have hN:N=Zbx 5:=(beq_iff_eq.1 h).trans (by decide)
      have hz:Zd8 N=5:=by rw [hN];decide
      go_ret3
      exact ⟨by rw [HF.out,hz];simp,Below.tr HB.out (Below.tr HQ.out hb5)⟩
     ·go_roundw
      case rel=>
       have h:(N == Zca [80,114,111,106,101,99,116])=false:=by assumption
       have hN:N≠Zbx 5:=fun e=>beq_eq_false_iff_ne.1 h (e.trans (by decide))
       refine ⟨5+1,by omega,by omega,rfl,Below.tr HQ.out hb5,fun j h1 h2=>?_⟩
       rcases Nat.lt_or_ge j 5 with hj | hj
       ·exact hno.out j h1 (by omega)
       ·obtain rfl:j=5:=by omega
        exact hN
      case measure=>simp [intOf]
def Zf5:List UInt8:=[60,62,91,93,123,125,124,35,95]
def ZdM:Int→List UInt8→Bool
 | _,[]=>true
 | p,c::r=>if (c.toNat:Int)<32∨(c.toNat:Int)=127∨0≤Lib.indexByte Zf5 c∨((c.toNat:Int)=32∧p=32) then false else ZdM c.toNat r
theorem ZiH {p:Int} {c:UInt8} {r:List UInt8} (h:(c.toNat:Int)<32∨(c.toNat:Int)=127∨0≤Lib.indexByte Zf5 c∨((c.toNat:Int)=32∧p=32)):ZdM p (c::r)=false:=by
 simp only [ZdM,if_pos h]
theorem Zlh {p:Int} {c:UInt8} {r:List UInt8} (h:¬((c.toNat:Int)<32∨(c.toNat:Int)=127∨0≤Lib.indexByte Zf5 c∨((c.toNat:Int)=32∧p=32))):ZdM p (c::r)=ZdM c.toNat r:=by
 simp only [ZdM,if_neg h]
def ZjA (s:ByteArray) (q:Nat):Int:=if h:0<q∧q - 1<s.size then ((s[q - 1]'h.2).toNat:Int) else -1
set_option maxRecDepth 100000 in
set_option maxHeartbeats 1000000 in
theorem Zli (s:ByteArray) (w:World) (hs:s.size≤9223372036854775807):Calls Tryz.prog 200 #[.string s] w fun e w'=>e = .returned (.bool (ZdM (-1) s.data.toList))∧w=w':=by
 go_enter Tryz.func200,Tryz.ntmps200
 go_wp2
 go_loop [3,4] (fun i _=>∃ q:Nat,q≤s.size∧i = .int .i64 q∧Hid (ZdM (-1) s.data.toList=ZdM (ZjA s q) (s.data.toList.drop q))) (fun i _=>s.size - (intOf i).toNat)
 case atStart=>exact ⟨0,Nat.zero_le _,rfl,rfl⟩
 case round=>
  obtain ⟨q,hq,rfl,hC⟩:=hrel
  by_cases hlt:q<s.size
  ·have HD:Hid (s.data.toList.drop q=s[q]::s.data.toList.drop (q+1)):=List.drop_eq_getElem_cons (by rw [Array.length_toList];exact hlt)
   have HP':Hid (ZjA s (q+1)=((s[q]'hlt).toNat:Int)):=by unfold ZjA;rw [dif_pos ⟨Nat.succ_pos q,hlt⟩];rfl
   by_cases h0:q=0
   ·subst h0
    have HP:Hid (ZjA s 0 = -1):=rfl
    go_wp2_with (go_at_call 165;refine (Tryz.strings_IndexByte _ _ _).mono ?_;rintro e w' ⟨rfl,rfl⟩)
    all_goals (try simp only [beq_iff_eq,beq_eq_false_iff_ne,ne_eq] at *)
    all_goals first
     | (exfalso;omega)
     | (go_ret;refine ⟨Zd5 ?_,rfl⟩;rw [hC.out,HD.out];refine (ZiH ?_).symm;rw [HP.out];unfold Zf5;omega)
     | (go_round;(case rel=>(refine ⟨1,by omega,rfl,?_⟩;rw [hC.out,HD.out,Zlh (by rw [HP.out];unfold Zf5;omega)];exact congrArg (fun p=>ZdM p (s.data.toList.drop (0+1))) HP'.out.symm));(case measure=>(simp [intOf];omega)))
   ·have HP:Hid (ZjA s q=((s[q - 1]'(by omega)).toNat:Int)):=by unfold ZjA;rw [dif_pos ⟨by omega,by omega⟩];exact Lib.hid rfl
    have h1:0<q:=by omega
    clear h0
    go_wp2_with (go_at_call 165;refine (Tryz.strings_IndexByte _ _ _).mono ?_;rintro e w' ⟨rfl,rfl⟩)
    all_goals (try simp only [beq_iff_eq,beq_eq_false_iff_ne,ne_eq] at *)
    all_goals first
     | (exfalso;omega)
     | (go_ret;refine ⟨Zd5 ?_,rfl⟩;rw [hC.out,HD.out];refine (ZiH ?_).symm;rw [HP.out];unfold Zf5;omega)
     | (go_round;(case rel=>(refine ⟨q+1,by omega,by go_num,?_⟩;rw [hC.out,HD.out,Zlh (by rw [HP.out];unfold Zf5;omega)];exact congrArg (fun p=>ZdM p (s.data.toList.drop (q+1))) HP'.out.symm));(case measure=>(simp [intOf];omega)))
  ·obtain rfl:q=s.size:=by omega
   have hz:s.data.toList.drop s.size = []:=List.drop_eq_nil_of_le (by rw [Array.length_toList];exact Nat.le_refl _)
   have HZ:Hid (ZdM (-1) s.data.toList=true):=by rw [hC.out,hz];exact rfl
   clear hz hC
   go_wp2
   go_ret
   exact ⟨Zd5 HZ.out.symm,rfl⟩
theorem Zo0 (s:ByteArray):Lib.countB s ⟨#[47]⟩≤s.size:=by
 have h:=Lib.countB_mul_le ⟨#[47]⟩ (by decide) s.size s (Nat.le_refl _)
 have e:(⟨#[47]⟩:ByteArray).size=1:=rfl
 rw [e] at h
 omega
theorem Zqm:∀ (l:List UInt8) (h:0<l.length),l.headD 0=l[0]
 | _::_,_=>rfl
theorem Zry (s:ByteArray) (h:0<s.size):s.data.toList.headD 0=s[0]:=
 Zqm _ (by rw [Array.length_toList];exact h)
theorem ZlU (s:ByteArray) (w:World) (hs:s.size<4294967281) (hG:ZrD w) (h:Zd9 s.data.toList=none):Calls Tryz.prog 155 #[.string s] w fun e w'=>e = .returned (.tuple #[.int .i64 0,.string ⟨#[]⟩,.bool false])∧Below w.heap.size w w':=
 (Zg1 s w hs hG).mono fun _ _ ⟨he,hb⟩=>⟨he.trans (by unfold Zg0;rw [h]),hb⟩
theorem ZlV (s:ByteArray) (w:World) (hs:s.size<4294967281) (hG:ZrD w) {n:Int} {r:List UInt8} (h:Zd9 s.data.toList=some (n,r)):Calls Tryz.prog 155 #[.string s] w fun e w'=>e = .returned (.tuple #[.int .i64 n,.string ⟨r.toArray⟩,.bool true])∧Below w.heap.size w w':=
 (Zg1 s w hs hG).mono fun _ _ ⟨he,hb⟩=>⟨he.trans (by unfold Zg0;rw [h]),hb⟩
theorem ZiI (sep:ByteArray):∀ (k:Nat) (s p:ByteArray),p ∈ Lib.splitB sep 0 k s→p.size≤s.size
 | 0,s,p,h=>by
   rw [Lib.splitB_zero] at h
   simp at h
   rw [h];exact Nat.le_refl _
 | k+1,s,p,h=>by
   rcases Lib.index_spec s.data.toList sep.data.toList with ⟨h1,_⟩ | ⟨i,h1,_⟩
   ·rw [Lib.splitB_miss sep 0 (k+1) s h1] at h
    simp at h
    rw [h];exact Nat.le_refl _
   ·rw [Lib.splitB_hit sep 0 k s i h1] at h
    rcases List.mem_cons.1 h with h | h
    ·rw [h,ByteArray.size_extract];omega
    ·have:=ZiI sep k _ p h
     rw [ByteArray.size_extract] at this
     omega
def Zhw (p:List UInt8):Bool:=decide (p≠[])&&decide (p[0]?≠some 32)&&decide (p.getLast?≠some 32)
theorem Zsk (a:UInt8):decide (some a≠some 32) = !((a.toNat:Int) == 32):=by
 by_cases h:a=32
 ·subst h;rfl
 ·have h2:a.toNat≠32:=fun e=>h (UInt8.toNat_inj.1 e)
  have h3:((a.toNat:Int) == 32)=false:=by rw [beq_eq_false_iff_ne];omega
  rw [h3];simp [h]
theorem Zni (x:ByteArray) (h:0<x.size):Zhw x.data.toList = !((x[0].toNat:Int) == 32||((x[x.size - 1]'(by omega)).toNat:Int) == 32):=by
 have hl:x.data.toList.length=x.size:=Array.length_toList
 have h1:x.data.toList≠[]:=fun e=>by rw [e] at hl;simp at hl;omega
 have h2:x.data.toList[0]? = some x[0]:=List.getElem?_eq_getElem (by omega)
 have h3:x.data.toList.getLast? = some (x[x.size - 1]'(by omega)):=by
  rw [List.getLast?_eq_getElem?,hl]
  exact List.getElem?_eq_getElem (by omega)
 unfold Zhw
 rw [h2,h3,Zsk,Zsk]
 simp [h1]
def Zf6 (c:Int):Bool:=decide (c≠58) && !(decide (97≤c)&&decide (c≤122))
theorem ZiJ {c:Int} (h:c=58):Zf6 c=false:=by subst h;rfl
theorem ZiK {c:Int} (h:97≤c) (h':c≤122):Zf6 c=false:=by simp [Zf6,h,h']
theorem ZiL {c:Int} (h:c≠58) (h':c<97∨122<c):Zf6 c=true:=by
 unfold Zf6
 have:¬ (97≤c∧c≤122):=by omega
 simp [h];omega
def Title.valid (t:Title):Bool:=
 decide (0≤t.space)&&decide (t.space<6)&&decide (1≤t.name.size)&&decide (t.name.size≤100)&&ZdM (-1) t.name.data.toList &&
 (Lib.splitB ⟨#[47]⟩ 0 (Lib.countB t.name ⟨#[47]⟩) t.name).all (fun p=>Zhw p.data.toList) &&
 Zf6 (t.name.data.toList.headD 0).toNat &&
 (decide (t.space≠0)||decide (Zd9 t.name.data.toList=none))
set_option maxRecDepth 100000 in
set_option maxHeartbeats 1000000 in
theorem Zo1 (t:Title) (w:World) (hG:ZrD w):Calls Tryz.prog 157 #[.agg #[.int .i64 t.space,.string t.name]] w fun e w'=>e = .returned (.bool t.valid)∧Below w.heap.size w w':=by
 obtain ⟨m,hm⟩:=hG
 obtain ⟨sp,s⟩:=t
 by_cases h:(0≤sp∧sp<6)∧(1≤s.size∧s.size≤100)∧ZdM (-1) s.data.toList=true
 ·obtain ⟨⟨h1,h2⟩,⟨h3,h4⟩,h5⟩:=h
  go_enter Tryz.func157,Tryz.ntmps157
  go_wp2_with (first | (go_at_call 200;refine (Zli _ _ (by omega)).mono ?_;rintro e w' ⟨rfl,rfl⟩) | (go_at_call 197;refine (Tryz.strings_Split _ _ m _ (by omega) (by exact re1 (Below.al (Below.refl _ _) _) (Zhe hm) hm) (by decide)).mono ?_;rintro e w' ⟨rfl,rfl⟩))
  have hcl:=Lib.splitB_all ⟨#[47]⟩ (by decide) 0 _ s rfl
  have hb:Below w.heap.size w ((w.alloc (Obj.cells #[Value.int IntKind.i64 sp,Value.string s] 29)).alloc (Obj.cells (List.map Value.string (Lib.splitB { data:=#[47] } 0 (Lib.countB s { data:=#[47] }) s)).toArray 9)):=Below.al (Below.al (Below.refl _ _) _) _
  have hS:=SlR.strs (w.alloc (Obj.cells #[Value.int IntKind.i64 sp,Value.string s] 29)) 9 (n:=Lib.countB s { data:=#[47] }+1) (Lib.splitB { data:=#[47] } 0 (Lib.countB s { data:=#[47] }) s) hcl.symm (by have:=Zo0 s;omega)
  have e1:(w.alloc (Obj.cells #[Value.int IntKind.i64 sp,Value.string s] 29)).heap.size=w.heap.size+1:=by simp
  rw [e1] at hS
  have c0:((w.alloc (Obj.cells #[Value.int IntKind.i64 sp,Value.string s] 29)).alloc (Obj.cells (List.map Value.string (Lib.splitB { data:=#[47] } 0 (Lib.countB s { data:=#[47] }) s)).toArray 9)).cell? ⟨w.heap.size,0,none⟩=some (.int .i64 sp):=by go_simp
  generalize (w.alloc (Obj.cells #[Value.int IntKind.i64 sp,Value.string s] 29)).alloc (Obj.cells (List.map Value.string (Lib.splitB { data:=#[47] } 0 (Lib.countB s { data:=#[47] }) s)).toArray 9)=w2 at *
  have HB:=Lib.hid hb
  clear hb e1 hcl
  have hsp:Title.valid ⟨sp,s⟩=((Lib.splitB { data:=#[47] } 0 (Lib.countB s { data:=#[47] }) s).all (fun p=>Zhw p.data.toList)&&(Zf6 (s.data.toList.headD 0).toNat &&
   (decide (sp≠0)||decide (Zd9 s.data.toList=none)))):=by simp [Title.valid,h1,h2,h3,h4,h5,Bool.and_assoc]
  have splitB_sizes:=fun p h=>Nat.le_trans (ZiI ⟨#[47]⟩ (Lib.countB s ⟨#[47]⟩) s p h) h4
  generalize Lib.countB s { data:=#[47] }=K at *
  generalize Lib.splitB { data:=#[47] } 0 K s=ps at *
  have HSP:=Lib.hid hsp
  have HK:=Lib.hid hS.1
  have hle:=hS.le
  clear hsp
  go_loopw [5,37] (fun _ i wr=>∃ q:Nat,q≤K+1∧i = .int .i64 q∧Below w2.heap.size w2 wr∧Hid (ps.all (fun p=>Zhw p.data.toList)=(ps.drop q).all (fun p=>Zhw p.data.toList))) (fun _ i _=>K+1 - (intOf i).toNat)
  case atStart=>exact ⟨0,by omega,rfl,Below.refl _ _,rfl⟩
  case round=>
   obtain ⟨q,hq,rfl,hbw,hA⟩:=hrel
   have HW:=Lib.hid hbw
   by_cases hlt:q<K+1
   ·obtain ⟨b,off,x,cs,hA0,hbl,hx,hd,hR,hc⟩:=(hS.mono hbw).elem hlt
    obtain ⟨rfl,rfl⟩:w.heap.size+1=b∧0=off:=by injection hA0 with h;injection h with h1 h2;exact ⟨h1,h2⟩
    have d0:wr.cell? ⟨w.heap.size+1,q,none⟩=some (.string x):=by subst hR;simpa using hc 0 _ rfl
    have HD:=Lib.hid hd
    have hxs:=splitB_sizes x (List.mem_of_getElem? hx)
    clear hA0 hx hd hR hc hbw hS h5 h1 h2 hbl splitB_sizes
    by_cases hx0:x.size=0
    ·have hx1:x.toList = []:=by rw [ByteArray.toList_eq];exact List.eq_nil_of_length_eq_zero (by rw [Array.length_toList];exact hx0)
     have HP:Hid (Zhw x.data.toList=false):=Lib.hid (by rw [← ByteArray.toList_eq,hx1];rfl)
     clear hx0
     go_wp2
     go_ret
     exact ⟨Zd5 (by rw [HSP.out,hA.out,HD.out,List.all_cons,HP.out];rfl),Below.tr HB.out HW.out⟩
    ·have hx1:¬ x.toList = []:=fun e=>by rw [ByteArray.toList_eq] at e;exact hx0 (by have:=congrArg List.length e;rw [Array.length_toList] at this;exact this)
     have hx2:0<x.size:=by omega
     have hx3:(0:Int)≤(x.size:Int) - 1:=by omega
     have HP:=Lib.hid (Zni x hx2)
     clear hx0
     go_wp2
     all_goals (try simp only [beq_iff_eq,beq_eq_false_iff_ne,ne_eq,List.isEmpty_iff,List.isEmpty_eq_false_iff] at *)
     all_goals first
      | (exfalso;omega)
      | (go_ret;refine ⟨Zd5 ?_,Below.tr HB.out HW.out⟩;rw [HSP.out,hA.out,HD.out,List.all_cons,HP.out];simp_all;done)
      | (go_roundw;(case rel=>(refine ⟨q+1,by omega,by go_num,HW.out,?_⟩;refine Lib.hid ?_;rw [hA.out,HD.out,List.all_cons,HP.out];simp_all));(case measure=>(simp [intOf];omega)))
   ·obtain rfl:q=K+1:=by omega
    have hz:ps.all (fun p=>Zhw p.data.toList)=true:=by
     rw [hA.out,List.drop_eq_nil_of_le (by rw [← HK.out];exact Nat.le_refl _)];rfl
    rw [hz,Bool.true_and] at HSP
    have c1:wr.cell? ⟨w.heap.size,0,none⟩=some (.int .i64 sp):=re1 hbw (Zhe c0) c0
    have hm1:wr.cell? ⟨0,0,none⟩=some (.int .i64 m):=re1 (Below.tr HB.out hbw) (Zhe hm) hm
    have hg:s.data.toList.headD 0=s[0]'(by omega):=Zry s (by omega)
    rw [hg] at HSP
    have hs0:(0:Int)<s.size:=by omega
    clear hz hbw hS h5 hA c0 hle splitB_sizes hg hm
    rcases hp:Zd9 s.data.toList with _ | ⟨n,r⟩
    ·rw [hp] at HSP
     have hpr:=fun W h1 h2=>ZlU s W h1 h2 hp
     clear hp
     go_wp2_with (go_at_call 155;refine (hpr _ (by omega) ⟨m,by assumption⟩).mono ?_;rintro e w5 ⟨rfl,hb5⟩;have c2:=re1 hb5 (Zhe c1) c1)
     all_goals
      go_ret
      refine ⟨Zd5 ?_,?_⟩
      ·rw [HSP.out]
       simp only [beq_iff_eq,beq_eq_false_iff_ne,ne_eq] at *
       first
        | (rw [ZiJ (by omega)];rfl)
        | (rw [ZiK (by omega) (by omega)];rfl)
        | (rw [ZiL (by omega) (by omega)];simp_all;done)
      ·first | exact Below.tr (Below.tr HB.out HW.out) (by assumption) | exact Below.tr HB.out HW.out
    ·rw [hp] at HSP
     have hpr:=fun W h1 h2=>ZlV s W h1 h2 hp
     clear hp
     go_wp2_with (go_at_call 155;refine (hpr _ (by omega) ⟨m,by assumption⟩).mono ?_;rintro e w5 ⟨rfl,hb5⟩;have c2:=re1 hb5 (Zhe c1) c1)
     all_goals
      go_ret
      refine ⟨Zd5 ?_,?_⟩
      ·rw [HSP.out]
       simp only [beq_iff_eq,beq_eq_false_iff_ne,ne_eq] at *
       first
        | (rw [ZiJ (by omega)];rfl)
        | (rw [ZiK (by omega) (by omega)];rfl)
        | (rw [ZiL (by omega) (by omega)];simp_all;done)
      ·first | exact Below.tr (Below.tr HB.out HW.out) (by assumption) | exact Below.tr HB.out HW.out
 ·go_enter Tryz.func157,Tryz.ntmps157
  have hv:Title.valid ⟨sp,s⟩=false:=by
   cases hV:Title.valid ⟨sp,s⟩ with
   | false=>rfl
   | true=>
     simp only [Title.valid,Bool.and_eq_true,decide_eq_true_eq] at hV
     obtain ⟨⟨⟨⟨⟨⟨⟨ha,hb⟩,hc⟩,hd⟩,hcl⟩,_⟩,_⟩,_⟩:=hV
     exact absurd ⟨⟨ha,hb⟩,⟨hc,hd⟩,hcl⟩ h
  have HV:=Lib.hid hv
  clear hv
  go_wp2_with (first | (go_at_call 200;refine (Zli _ _ (by omega)).mono ?_;rintro e w' ⟨rfl,rfl⟩) | (go_at_call 197;exfalso;have h6:(!ZdM (-1) s.data.toList)=false:=And.right (by assumption);simp at h6;exact h ⟨⟨by omega,by omega⟩,⟨by omega,by omega⟩,h6⟩))
  all_goals
   go_ret
   exact ⟨Zd5 HV.out.symm,Below.al (Below.refl _ _) _⟩
theorem Zhj:∀ (css:List (List Value)) (xs:List ByteArray),css.length=xs.length→(∀ (i:Nat) (x:ByteArray) (cs:List Value),xs[i]? = some x→css[i]? = some cs→cs = [.string x])→css.flatten=xs.map Value.string
 | [],[],_,_=>rfl
 | [],_::_,h,_=>by simp at h
 | _::_,[],h,_=>by simp at h
 | c::css,x::xs,h,hR=>by
   have h0:=hR 0 x c rfl rfl
   subst h0
   rw [List.flatten_cons,Zhj css xs (by simpa using h) (fun i y cs hy hcs=>hR (i+1) y cs (by simpa using hy) (by simpa using hcs))]
   rfl
theorem OwnL.of_row {w:World} {B:Nat} {E:TypeId} {v:Value} {xs:List ByteArray} (h:w.ownsRow B E 1 v xs.length (xs.map Value.string)):OwnL w B E v xs:=by
 refine ⟨xs.map (fun x=>[.string x]),by simp,?_,fun i x cs hx hcs=>?_⟩
 ·rw [Zhj _ xs (by simp) (fun i x cs hx hcs=>by rw [List.getElem?_map,hx] at hcs;simpa using hcs.symm)]
  exact h
 ·rw [List.getElem?_map,hx] at hcs
  show cs = [.string x]
  simpa using hcs.symm
end Go.Proofs.YtmgfammllddkhaaGreatDoor
