/- Titles: the words ahead of a colon that name a namespace. | Titles: which bytes names may have; which titles are valid. | The reference's small functions on titles: an index, letters without their case, the words ahead of a colon. | The reference's words ahead of a colon. | A slice of strings that the call itself made: reading and storing an element. No program is named. | The reference's Parts: a text divided at each slash. | Plain laws: the reference's Parts and prefixed say what strings.Split and title.prefix say. | The reference's Valid. | Functions of the library and of titles, as the others are written. | strings.ReplaceAll at one byte for one byte. | Short forms of what fx prints. No program is named. | Functions that turn a row in place and have plain arguments behind it. No program is named. | Stores of whole elements behind another store; functions that turn a row, held against Lean functions. No program is named. | make([]T, n): a new row of n zeros, where a nil list counts as an empty one. No program is named. | What stands behind a place of a row of the call's own: it is looked at and cleared while the row is turned. No program is named. | Functions that turn the row that is their first argument and hand back a front of it. No program is named. | A run that stops at structs that are written out. No program is named. | A call that turns an object with rows, where one of the object's own rows is handed in too (and is open to others from then on). No program is named. | Steps that take a value out of a function's Lean form, in short. No program is named. | Rows looked at from a place on, cleared, cut short, at lists of any type. No program is named. | A call that turns the row that is its first argument and only looks at the others, function values among them. No program is named. | Queues: a row of the call's own whose front is cut off and whose end grows. No program is named. | The rules for queues. No program is named. -/
import Derived.Test.YtpffimahajgiaaaGreatDoorVM04
import Derived.Test.YtpffimahajgiaaaGreatDoorVM03
import Derived.Lib.IndexEntry
import Derived.Test.YtpffimahajgiaaaGreatDoorVM01
import Derived.Laws.OwnMore
import Derived.Lib.IndexBytes
import Derived.Test.YtpffimahajgiaaaGreatDoorVM02
namespace Go.Proofs.YtpffimahajgiaaaGreatDoor
open Go.RowKit
def ZvA (w:World):Prop:=∃ m,w.cell? ⟨0,0,none⟩=some (.int .i64 m)
theorem Zv7 (s sep:List UInt8):(Lib.cut s sep).1.length<=s.length:=by{
unfold Lib.cut
split
simp;omega
exact Nat.le_refl _}
theorem Zlo (s p:List UInt8):(Lib.trimSuffix s p).length<=s.length:=by{
unfold Lib.trimSuffix
split
rw [List.length_take];omega
exact Nat.le_refl _}
def ZeV (n:List UInt8):Int:=if n = [116,97,108,107] then 1 else if n = [117,115,101,114] then 2 else if n = [116,101,109,112,108,97,116,101] then 3 else if n = [99,97,116,101,103,111,114,121] then 4 else if n = [112,114,111,106,101,99,116] then 5 else 0
def Zda (s:List UInt8):Option (Int×List UInt8):=if (Lib.cut s [58]).2.2=true/\ZeV (Zcq (Lib.trimSuffix (Lib.cut s [58]).1 [32]))≠0 then some (ZeV (Zcq (Lib.trimSuffix (Lib.cut s [58]).1 [32])),(Lib.cut s [58]).2.1) else none
def Zh1 (s:List UInt8):Value:=match Zda s with | some (n,r)=>.tuple #[.int .i64 n,.string ⟨r.toArray⟩,.bool true] | none=>.tuple #[.int .i64 0,.string ⟨#[]⟩,.bool false]
set_option maxHeartbeats 400000 in
theorem Zpe (w:World):Calls Tryz.prog 55 #[] w fun e w'=>e = .returned (.agg #[.string ⟨#[]⟩,.string ⟨#[84,97,108,107]⟩,.string ⟨#[85,115,101,114]⟩,.string ⟨#[84,101,109,112,108,97,116,101]⟩,.string ⟨#[67,97,116,101,103,111,114,121]⟩,.string ⟨#[80,114,111,106,101,99,116]⟩])/\Below w.heap.size w w':=by
 go_enter Tryz.func55,Tryz.ntmps55
 go_wp2
 exact bodyPost_ret (v:=.agg #[.string ⟨#[]⟩,.string ⟨#[84,97,108,107]⟩,.string ⟨#[85,115,101,114]⟩,.string ⟨#[84,101,109,112,108,97,116,101]⟩,.string ⟨#[67,97,116,101,103,111,114,121]⟩,.string ⟨#[80,114,111,106,101,99,116]⟩]) (by simp [results,Tryz.results55,go_sem]) rfl ⟨rfl,Below.al (Below.refl _ _) _⟩
def ZbH (q:Nat):List UInt8:=match q with | 1=>[116,97,108,107] | 2=>[117,115,101,114] | 3=>[116,101,109,112,108,97,116,101] | 4=>[99,97,116,101,103,111,114,121] | 5=>[112,114,111,106,101,99,116] | _=>[]
theorem ZmE (n:List UInt8) (h:∀ j,1<=j->j<6->n≠ZbH j):ZeV n=0:=by{
have h1:=h 1 (by decide) (by decide)
have h2:=h 2 (by decide) (by decide)
have h3:=h 3 (by decide) (by decide)
have h4:=h 4 (by decide) (by decide)
have h5:=h 5 (by decide) (by decide)
simp only [ZbH] at h1 h2 h3 h4 h5
simp only [ZeV,h1,h2,h3,h4,h5,if_false]}
set_option maxRecDepth 100000 in
set_option maxHeartbeats 1000000 in
theorem Zh2 (s:ByteArray) (w:World) (hs:s.size<4294967281) (hG:ZvA w):Calls Tryz.prog 84 #[.string s] w fun e w'=>e = .returned (Zh1 s.data.toList)/\Below w.heap.size w w':=by{
obtain ⟨m,hm⟩:=hG
have HF:Hid (Zh1 s.data.toList=match Zda s.data.toList with
 | some (n,r)=>.tuple #[.int .i64 n,.string ⟨r.toArray⟩,.bool true]
 | none=>.tuple #[.int .i64 0,.string ⟨#[]⟩,.bool false]):=Lib.hid rfl
unfold Zda at HF
have hl1:(Lib.cut s.data.toList [58]).1.length<=s.data.toList.length:=Zv7 _ _
go_enter Tryz.func84,Tryz.ntmps84
go_wp2_with fail
refine (Tryz.strings_Cut s _ m _ hs hm).mono ?_
rintro e w1 ⟨rfl,n1,rfl⟩
rw [show (⟨#[58]⟩:ByteArray).data.toList = [58] from rfl]
generalize Lib.cut s.data.toList [58]=C at *
obtain ⟨b,a,ok⟩:=C
cases ok
·go_wp2
 go_ret3
 exact ⟨by rw [HF.out];simp,Below.dn (Below.refl _ _) _⟩
·go_wp2_with fail
 refine (Tryz.strings_TrimSuffix _ _ _ (by have:=s.data.toList.length;simp only [ByteArray.size,Array.length_toList,List.size_toArray] at hl1 hs ⊢;omega)).mono ?_
 rintro e w1 ⟨rfl,rfl⟩
 go_wp2_with fail
 refine (Zgo _ _ (by have h2:=Zlo b [32];simp only [ByteArray.size,Array.length_toList,List.size_toArray] at hl1 hs h2 ⊢;omega)).mono ?_
 rintro e w1 ⟨rfl,hb1⟩
 go_wp2_with fail
 refine (Zpe _).mono ?_
 rintro e w2 ⟨rfl,hb2⟩
 have HB:=Lib.hid (Below.tr (Below.tr (Below.dn (Below.refl _ _) _) hb1) hb2)
 clear hb1 hb2 hm hs hl1
 generalize Zcq (Lib.trimSuffix b [32])=N at *
 simp only [true_and] at HF
 go_wp2_with fail
 go_loopw [23] (fun i wr=>∃ z:Int,0<=z/\z<=6/\i = .int .i64 z/\Below w2.heap.size w2 wr/\Hid (∀ j:Nat,1<=j->(j:Int)<z->N≠ZbH j)) (fun i _=>6-(intOf i).toNat)
 case atStart=>exact ⟨0,by omega,by omega,rfl,Below.refl _ _,fun j _ h=>absurd h (by omega)⟩
 case round=>
  obtain ⟨z,hz0,hz6,rfl,hbw,hno⟩:=hrel
  have HQ:=Lib.hid hbw
  clear hbw
  by_cases h6:z=6
  ·subst h6
   have hz:ZeV N=0:=ZmE N fun j h1 h2=>hno.out j h1 (by omega)
   rw [hz] at HF
   clear hz
   go_wp2
   go_ret3
   exact ⟨by rw [HF.out];simp,Below.tr HB.out HQ.out⟩
  ·have hq6:z=0\/z=1\/z=2\/z=3\/z=4\/z=5:=by omega
   clear h6 hz0 hz6
   have ix:∀ w (z:Int) (x:Value),(#[Value.string { data:=#[] },Value.string { data:=#[84,97,108,107] },Value.string { data:=#[85,115,101,114] },Value.string { data:=#[84,101,109,112,108,97,116,101] },Value.string { data:=#[67,97,116,101,103,111,114,121] },Value.string { data:=#[80,114,111,106,101,99,116] }]:Array Value)[z.toNat]? = some x->0<=z->z<6->
    (Instr.index 112 (.agg #[Value.string { data:=#[] },Value.string { data:=#[84,97,108,107] },Value.string { data:=#[85,115,101,114] },Value.string { data:=#[84,101,109,112,108,97,116,101] },Value.string { data:=#[67,97,116,101,103,111,114,121] },Value.string { data:=#[80,114,111,106,101,99,116] }]) (.int .i64 z)).run Tryz.prog w = .ok x w:=by
    intro w z x h h0 h6
    obtain rfl | rfl | rfl | rfl | rfl | rfl:z=0\/z=1\/z=2\/z=3\/z=4\/z=5:=by omega
    all_goals
     (simp at h;subst h;kernel_rfl)
   rcases hq6 with rfl | rfl | rfl | rfl | rfl | rfl
   ·have i0:=fun w=>ix w 0 _ rfl (by decide) (by decide)
    clear ix
    go_wp2
    go_roundw
    case rel=>exact ⟨1,by omega,by omega,rfl,HQ.out,fun j h1 h2=>absurd h2 (by omega)⟩
    case measure=>simp [intOf]
   ·have i0:=fun w=>ix w 1 _ rfl (by decide) (by decide)
    clear ix
    go_wp2_with (go_at_call 128;refine (Zgo _ _ (by decide)).mono ?_;rintro e w5 ⟨rfl,hb5⟩)
    ·have h:(N == Zcq [84,97,108,107])=true:=by assumption
     have hN:N=ZbH 1:=(beq_iff_eq.1 h).trans (by decide)
     have hz:ZeV N=1:=by rw [hN];decide
     go_ret3
     exact ⟨by rw [HF.out,hz];simp,Below.tr HB.out (Below.tr HQ.out hb5)⟩
    ·go_roundw
     case rel=>
      have h:(N == Zcq [84,97,108,107])=false:=by assumption
      have hN:N≠ZbH 1:=fun e=>beq_eq_false_iff_ne.1 h (e.trans (by decide))
      refine ⟨1+1,by omega,by omega,rfl,Below.tr HQ.out hb5,fun j h1 h2=>?_⟩
      rcases Nat.lt_or_ge j 1 with hj | hj
      exact hno.out j h1 (by omega)
      obtain rfl:j=1:=by omega
      exact hN
     case measure=>simp [intOf]
   ·have i0:=fun w=>ix w 2 _ rfl (by decide) (by decide)
    clear ix
    go_wp2_with (go_at_call 128;refine (Zgo _ _ (by decide)).mono ?_;rintro e w5 ⟨rfl,hb5⟩)
    ·have h:(N == Zcq [85,115,101,114])=true:=by assumption
     have hN:N=ZbH 2:=(beq_iff_eq.1 h).trans (by decide)
     have hz:ZeV N=2:=by rw [hN];decide
     go_ret3
     exact ⟨by rw [HF.out,hz];simp,Below.tr HB.out (Below.tr HQ.out hb5)⟩
    ·go_roundw
     case rel=>
      have h:(N == Zcq [85,115,101,114])=false:=by assumption
      have hN:N≠ZbH 2:=fun e=>beq_eq_false_iff_ne.1 h (e.trans (by decide))
      refine ⟨2+1,by omega,by omega,rfl,Below.tr HQ.out hb5,fun j h1 h2=>?_⟩
      rcases Nat.lt_or_ge j 2 with hj | hj
      exact hno.out j h1 (by omega)
      obtain rfl:j=2:=by omega
      exact hN
     case measure=>simp [intOf]
   ·have i0:=fun w=>ix w 3 _ rfl (by decide) (by decide)
    clear ix
    go_wp2_with (go_at_call 128;refine (Zgo _ _ (by decide)).mono ?_;rintro e w5 ⟨rfl,hb5⟩)
    ·have h:(N == Zcq [84,101,109,112,108,97,116,101])=true:=by assumption
     have hN:N=ZbH 3:=(beq_iff_eq.1 h).trans (by decide)
     have hz:ZeV N=3:=by rw [hN];decide
     go_ret3
     exact ⟨by rw [HF.out,hz];simp,Below.tr HB.out (Below.tr HQ.out hb5)⟩
    ·go_roundw
     case rel=>
      have h:(N == Zcq [84,101,109,112,108,97,116,101])=false:=by assumption
      have hN:N≠ZbH 3:=fun e=>beq_eq_false_iff_ne.1 h (e.trans (by decide))
      refine ⟨3+1,by omega,by omega,rfl,Below.tr HQ.out hb5,fun j h1 h2=>?_⟩
      rcases Nat.lt_or_ge j 3 with hj | hj
      exact hno.out j h1 (by omega)
      obtain rfl:j=3:=by omega
      exact hN
     case measure=>simp [intOf]
   ·have i0:=fun w=>ix w 4 _ rfl (by decide) (by decide)
    clear ix
    go_wp2_with (go_at_call 128;refine (Zgo _ _ (by decide)).mono ?_;rintro e w5 ⟨rfl,hb5⟩)
    ·have h:(N == Zcq [67,97,116,101,103,111,114,121])=true:=by assumption
     have hN:N=ZbH 4:=(beq_iff_eq.1 h).trans (by decide)
     have hz:ZeV N=4:=by rw [hN];decide
     go_ret3
     exact ⟨by rw [HF.out,hz];simp,Below.tr HB.out (Below.tr HQ.out hb5)⟩
    ·go_roundw
     case rel=>
      have h:(N == Zcq [67,97,116,101,103,111,114,121])=false:=by assumption
      have hN:N≠ZbH 4:=fun e=>beq_eq_false_iff_ne.1 h (e.trans (by decide))
      refine ⟨4+1,by omega,by omega,rfl,Below.tr HQ.out hb5,fun j h1 h2=>?_⟩
      rcases Nat.lt_or_ge j 4 with hj | hj
      exact hno.out j h1 (by omega)
      obtain rfl:j=4:=by omega
      exact hN
     case measure=>simp [intOf]
   ·have i0:=fun w=>ix w 5 _ rfl (by decide) (by decide)
    clear ix
    go_wp2_with (go_at_call 128;refine (Zgo _ _ (by decide)).mono ?_;rintro e w5 ⟨rfl,hb5⟩)
    ·have h:(N == Zcq [80,114,111,106,101,99,116])=true:=by assumption
     have hN:N=ZbH 5:=(beq_iff_eq.1 h).trans (by decide)
     have hz:ZeV N=5:=by rw [hN];decide
     go_ret3
     exact ⟨by rw [HF.out,hz];simp,Below.tr HB.out (Below.tr HQ.out hb5)⟩
    ·go_roundw
     case rel=>
      have h:(N == Zcq [80,114,111,106,101,99,116])=false:=by assumption
      have hN:N≠ZbH 5:=fun e=>beq_eq_false_iff_ne.1 h (e.trans (by decide))
      refine ⟨5+1,by omega,by omega,rfl,Below.tr HQ.out hb5,fun j h1 h2=>?_⟩
      rcases Nat.lt_or_ge j 5 with hj | hj
      exact hno.out j h1 (by omega)
      obtain rfl:j=5:=by omega
      exact hN
     case measure=>simp [intOf]}
def Zg2:List UInt8:=[60,62,91,93,123,125,124,35,95]
def Zex:Int->List UInt8->Bool | _,[]=>true | p,c::r=>if (c.toNat:Int)<32\/(c.toNat:Int)=127\/0<=Lib.indexByte Zg2 c\/((c.toNat:Int)=32/\p=32) then false else Zex c.toNat r
theorem ZjU {p:Int} {c:UInt8} {r:List UInt8} (h:(c.toNat:Int)<32\/(c.toNat:Int)=127\/0<=Lib.indexByte Zg2 c\/((c.toNat:Int)=32/\p=32)):Zex p (c::r)=false:=by
 simp only [Zex,if_pos h]
theorem Zm0 {p:Int} {c:UInt8} {r:List UInt8} (h:¬((c.toNat:Int)<32\/(c.toNat:Int)=127\/0<=Lib.indexByte Zg2 c\/((c.toNat:Int)=32/\p=32))):Zex p (c::r)=Zex c.toNat r:=by
 simp only [Zex,if_neg h]
def Zk5 (s:ByteArray) (q:Nat):Int:=if h:0<q/\q-1<s.size then ((s[q-1]'h.2).toNat:Int) else -1
set_option maxRecDepth 100000 in
set_option maxHeartbeats 1000000 in
theorem Zm1 (s:ByteArray) (w:World) (hs:s.size<=9223372036854775807):Calls Tryz.prog 82 #[.string s] w fun e w'=>e = .returned (.bool (Zex (-1) s.data.toList))/\w=w':=by{
go_enter Tryz.func82,Tryz.ntmps82
go_wp2
go_loop [3,4] (fun i _=>∃ q:Nat,q<=s.size/\i = .int .i64 q/\Hid (Zex (-1) s.data.toList=Zex (Zk5 s q) (s.data.toList.drop q))) (fun i _=>s.size-(intOf i).toNat)
case atStart=>exact ⟨0,Nat.zero_le _,rfl,rfl⟩
case round=>
 obtain ⟨q,hq,rfl,hC⟩:=hrel
 by_cases hlt:q<s.size
 have HD:Hid (s.data.toList.drop q=s[q]::s.data.toList.drop (q+1)):=List.drop_eq_getElem_cons (by rw [Array.length_toList];exact hlt)
 have HP':Hid (Zk5 s (q+1)=((s[q]'hlt).toNat:Int)):=by unfold Zk5;rw [dif_pos ⟨Nat.succ_pos q,hlt⟩];rfl
 by_cases h0:q=0
 ·subst h0
  have HP:Hid (Zk5 s 0 = -1):=rfl
  go_wp2_with (go_at_call 125;refine (Tryz.strings_IndexByte _ _ _).mono ?_;rintro e w' ⟨rfl,rfl⟩)
  all_goals (try simp only [beq_iff_eq,beq_eq_false_iff_ne,ne_eq] at *)
  all_goals first
   | (exfalso;omega)
   | (go_ret;refine ⟨Za9 ?_,rfl⟩;rw [hC.out,HD.out];refine (ZjU ?_).symm;rw [HP.out];unfold Zg2;omega)
   | (go_round;(case rel=>(refine ⟨1,by omega,rfl,?_⟩;rw [hC.out,HD.out,Zm0 (by rw [HP.out];unfold Zg2;omega)];exact congrArg (fun p=>Zex p (s.data.toList.drop (0+1))) HP'.out.symm));(case measure=>(simp [intOf];omega)))
 ·have HP:Hid (Zk5 s q=((s[q-1]'(by omega)).toNat:Int)):=by unfold Zk5;rw [dif_pos ⟨by omega,by omega⟩];exact Lib.hid rfl
  have h1:0<q:=by omega
  clear h0
  go_wp2_with (go_at_call 125;refine (Tryz.strings_IndexByte _ _ _).mono ?_;rintro e w' ⟨rfl,rfl⟩)
  all_goals (try simp only [beq_iff_eq,beq_eq_false_iff_ne,ne_eq] at *)
  all_goals first
   | (exfalso;omega)
   | (go_ret;refine ⟨Za9 ?_,rfl⟩;rw [hC.out,HD.out];refine (ZjU ?_).symm;rw [HP.out];unfold Zg2;omega)
   | (go_round;(case rel=>(refine ⟨q+1,by omega,by go_num,?_⟩;rw [hC.out,HD.out,Zm0 (by rw [HP.out];unfold Zg2;omega)];exact congrArg (fun p=>Zex p (s.data.toList.drop (q+1))) HP'.out.symm));(case measure=>(simp [intOf];omega)))
 ·obtain rfl:q=s.size:=by omega
  have hz:s.data.toList.drop s.size = []:=List.drop_eq_nil_of_le (by rw [Array.length_toList];exact Nat.le_refl _)
  have HZ:Hid (Zex (-1) s.data.toList=true):=by rw [hC.out,hz];exact rfl
  clear hz hC
  go_wp2
  go_ret
  exact ⟨Za9 HZ.out.symm,rfl⟩}
theorem Zm2 (s:ByteArray):Lib.countB s ⟨#[47]⟩<=s.size:=by{
have h:=Lib.countB_mul_le ⟨#[47]⟩ (by decide) s.size s (Nat.le_refl _)
have e:(⟨#[47]⟩:ByteArray).size=1:=rfl
rw [e] at h
omega}
theorem Ztt:∀ (l:List UInt8) (h:0<l.length),l.headD 0=l[0]
 | _::_,_=>rfl
theorem Zvf (s:ByteArray) (h:0<s.size):s.data.toList.headD 0=s[0]:=
 Ztt _ (by rw [Array.length_toList];exact h)
theorem ZnR (s:ByteArray) (w:World) (hs:s.size<4294967281) (hG:ZvA w) (h:Zda s.data.toList=none):Calls Tryz.prog 84 #[.string s] w fun e w'=>e = .returned (.tuple #[.int .i64 0,.string ⟨#[]⟩,.bool false])/\Below w.heap.size w w':=
 (Zh2 s w hs hG).mono fun _ _ ⟨he,hb⟩=>⟨he.trans (by unfold Zh1;rw [h]),hb⟩
theorem ZnS (s:ByteArray) (w:World) (hs:s.size<4294967281) (hG:ZvA w) {n:Int} {r:List UInt8} (h:Zda s.data.toList=some (n,r)):Calls Tryz.prog 84 #[.string s] w fun e w'=>e = .returned (.tuple #[.int .i64 n,.string ⟨r.toArray⟩,.bool true])/\Below w.heap.size w w':=
 (Zh2 s w hs hG).mono fun _ _ ⟨he,hb⟩=>⟨he.trans (by unfold Zh1;rw [h]),hb⟩
theorem Zg3 (sep:ByteArray):∀ (k:Nat) (s p:ByteArray),p ∈ Lib.splitB sep 0 k s->p.size<=s.size
 | 0,s,p,h=>by
   rw [Lib.splitB_zero] at h
   simp at h
   rw [h];exact Nat.le_refl _
 | k+1,s,p,h=>by
   rcases Lib.index_spec s.data.toList sep.data.toList with ⟨h1,_⟩ | ⟨i,h1,_⟩
   rw [Lib.splitB_miss sep 0 (k+1) s h1] at h
   simp at h
   rw [h];exact Nat.le_refl _
   rw [Lib.splitB_hit sep 0 k s i h1] at h
   rcases List.mem_cons.1 h with h | h
   rw [h,ByteArray.size_extract];omega
   have:=Zg3 sep k _ p h
   rw [ByteArray.size_extract] at this
   omega
def ZiA (p:List UInt8):Bool:=decide (p≠[])&&decide (p[0]?≠some 32)&&decide (p.getLast?≠some 32)
theorem Zwo (a:UInt8):decide (some a≠some 32) = !((a.toNat:Int) == 32):=by{
by_cases h:a=32
subst h;rfl
have h2:a.toNat≠32:=fun e=>h (UInt8.toNat_inj.1 e)
have h3:((a.toNat:Int) == 32)=false:=by rw [beq_eq_false_iff_ne];omega
rw [h3];simp [h]}
theorem Zpv (x:ByteArray) (h:0<x.size):ZiA x.data.toList = !((x[0].toNat:Int) == 32||((x[x.size-1]'(by omega)).toNat:Int) == 32):=by{
have hl:x.data.toList.length=x.size:=Array.length_toList
have h1:x.data.toList≠[]:=fun e=>by rw [e] at hl;simp at hl;omega
have h2:x.data.toList[0]? = some x[0]:=List.getElem?_eq_getElem (by omega)
have h3:x.data.toList.getLast? = some (x[x.size-1]'(by omega)):=by
 rw [List.getLast?_eq_getElem?,hl]
 exact List.getElem?_eq_getElem (by omega)
unfold ZiA
rw [h2,h3,Zwo,Zwo]
simp [h1]}
def Zg4 (c:Int):Bool:=decide (c≠58) && !(decide (97<=c)&&decide (c<=122))
theorem ZjV {c:Int} (h:c=58):Zg4 c=false:=by subst h;rfl
theorem ZjW {c:Int} (h:97<=c) (h':c<=122):Zg4 c=false:=by simp [Zg4,h,h']
theorem ZjX {c:Int} (h:c≠58) (h':c<97\/122<c):Zg4 c=true:=by
 unfold Zg4
 have:¬ (97<=c/\c<=122):=by omega
 simp [h];omega
def Title.valid (t:Title):Bool:=decide (0<=t.space)&&decide (t.space<6)&&decide (1<=t.name.size)&&decide (t.name.size<=100)&&Zex (-1) t.name.data.toList && (Lib.splitB ⟨#[47]⟩ 0 (Lib.countB t.name ⟨#[47]⟩) t.name).all (fun p=>ZiA p.data.toList) && Zg4 (t.name.data.toList.headD 0).toNat && (decide (t.space≠0)||decide (Zda t.name.data.toList=none))
set_option maxRecDepth 100000 in
set_option maxHeartbeats 1000000 in
theorem Zrr (t:Title) (w:World) (hG:ZvA w):Calls Tryz.prog 40 #[.agg #[.int .i64 t.space,.string t.name]] w fun e w'=>e = .returned (.bool t.valid)/\Below w.heap.size w w':=by{
obtain ⟨m,hm⟩:=hG
obtain ⟨sp,s⟩:=t
by_cases h:(0<=sp/\sp<6)/\(1<=s.size/\s.size<=100)/\Zex (-1) s.data.toList=true
·obtain ⟨⟨h1,h2⟩,⟨h3,h4⟩,h5⟩:=h
 go_enter Tryz.func40,Tryz.ntmps40
 go_wp2_with (first | (go_at_call 82;refine (Zm1 _ _ (by omega)).mono ?_;rintro e w' ⟨rfl,rfl⟩) | (go_at_call 83;refine (Tryz.strings_Split _ _ m _ (by omega) (by exact re1 (Below.al (Below.refl _ _) _) (ZcU hm) hm) (by decide)).mono ?_;rintro e w' ⟨rfl,rfl⟩))
 have hcl:=Lib.splitB_all ⟨#[47]⟩ (by decide) 0 _ s rfl
 have hb:Below w.heap.size w ((w.alloc (Obj.cells #[Value.int IntKind.i64 sp,Value.string s] 34)).alloc (Obj.cells (List.map Value.string (Lib.splitB { data:=#[47] } 0 (Lib.countB s { data:=#[47] }) s)).toArray 9)):=Below.al (Below.al (Below.refl _ _) _) _
 have hS:=SlR.strs (w.alloc (Obj.cells #[Value.int IntKind.i64 sp,Value.string s] 34)) 9 (n:=Lib.countB s { data:=#[47] }+1) (Lib.splitB { data:=#[47] } 0 (Lib.countB s { data:=#[47] }) s) hcl.symm (by have:=Zm2 s;omega)
 have e1:(w.alloc (Obj.cells #[Value.int IntKind.i64 sp,Value.string s] 34)).heap.size=w.heap.size+1:=by simp
 rw [e1] at hS
 have c0:((w.alloc (Obj.cells #[Value.int IntKind.i64 sp,Value.string s] 34)).alloc (Obj.cells (List.map Value.string (Lib.splitB { data:=#[47] } 0 (Lib.countB s { data:=#[47] }) s)).toArray 9)).cell? ⟨w.heap.size,0,none⟩=some (.int .i64 sp):=by go_simp
 generalize (w.alloc (Obj.cells #[Value.int IntKind.i64 sp,Value.string s] 34)).alloc (Obj.cells (List.map Value.string (Lib.splitB { data:=#[47] } 0 (Lib.countB s { data:=#[47] }) s)).toArray 9)=w2 at *
 have HB:=Lib.hid hb
 clear hb e1 hcl
 have hsp:Title.valid ⟨sp,s⟩=((Lib.splitB { data:=#[47] } 0 (Lib.countB s { data:=#[47] }) s).all (fun p=>ZiA p.data.toList)&&(Zg4 (s.data.toList.headD 0).toNat &&
  (decide (sp≠0)||decide (Zda s.data.toList=none)))):=by simp [Title.valid,h1,h2,h3,h4,h5,Bool.and_assoc]
 have splitB_sizes:=fun p h=>Nat.le_trans (Zg3 ⟨#[47]⟩ (Lib.countB s ⟨#[47]⟩) s p h) h4
 generalize Lib.countB s { data:=#[47] }=K at *
 generalize Lib.splitB { data:=#[47] } 0 K s=ps at *
 have HSP:=Lib.hid hsp
 have HK:=Lib.hid hS.1
 have hle:=hS.le
 clear hsp
 go_loopw [5,37] (fun _ i wr=>∃ q:Nat,q<=K+1/\i = .int .i64 q/\Below w2.heap.size w2 wr/\Hid (ps.all (fun p=>ZiA p.data.toList)=(ps.drop q).all (fun p=>ZiA p.data.toList))) (fun _ i _=>K+1-(intOf i).toNat)
 case atStart=>exact ⟨0,by omega,rfl,Below.refl _ _,rfl⟩
 case round=>
  obtain ⟨q,hq,rfl,hbw,hA⟩:=hrel
  have HW:=Lib.hid hbw
  by_cases hlt:q<K+1
  obtain ⟨b,off,x,cs,hA0,hbl,hx,hd,hR,hc⟩:=(hS.mono hbw).elem hlt
  obtain ⟨rfl,rfl⟩:w.heap.size+1=b/\0=off:=by injection hA0 with h;injection h with h1 h2;exact ⟨h1,h2⟩
  have d0:wr.cell? ⟨w.heap.size+1,q,none⟩=some (.string x):=by subst hR;simpa using hc 0 _ rfl
  have HD:=Lib.hid hd
  have hxs:=splitB_sizes x (List.mem_of_getElem? hx)
  clear hA0 hx hd hR hc hbw hS h5 h1 h2 hbl splitB_sizes
  by_cases hx0:x.size=0
  ·have hx1:x.toList = []:=by rw [ByteArray.toList_eq];exact List.eq_nil_of_length_eq_zero (by rw [Array.length_toList];exact hx0)
   have HP:Hid (ZiA x.data.toList=false):=Lib.hid (by rw [<- ByteArray.toList_eq,hx1];rfl)
   clear hx0
   go_wp2
   go_ret
   exact ⟨Za9 (by rw [HSP.out,hA.out,HD.out,List.all_cons,HP.out];rfl),Below.tr HB.out HW.out⟩
  ·have hx1:¬ x.toList = []:=fun e=>by rw [ByteArray.toList_eq] at e;exact hx0 (by have:=congrArg List.length e;rw [Array.length_toList] at this;exact this)
   have hx2:0<x.size:=by omega
   have hx3:(0:Int)<=(x.size:Int)-1:=by omega
   have HP:=Lib.hid (Zpv x hx2)
   clear hx0
   go_wp2
   all_goals (try simp only [beq_iff_eq,beq_eq_false_iff_ne,ne_eq,List.isEmpty_iff,List.isEmpty_eq_false_iff] at *)
   all_goals first
    | (exfalso;omega)
    | (go_ret;refine ⟨Za9 ?_,Below.tr HB.out HW.out⟩;rw [HSP.out,hA.out,HD.out,List.all_cons,HP.out];simp_all;done)
    | (go_roundw;(case rel=>(refine ⟨q+1,by omega,by go_num,HW.out,?_⟩;refine Lib.hid ?_;rw [hA.out,HD.out,List.all_cons,HP.out];simp_all));(case measure=>(simp [intOf];omega)))
  obtain rfl:q=K+1:=by omega
  have hz:ps.all (fun p=>ZiA p.data.toList)=true:=by
   rw [hA.out,List.drop_eq_nil_of_le (by rw [<- HK.out];exact Nat.le_refl _)];rfl
  rw [hz,Bool.true_and] at HSP
  have c1:wr.cell? ⟨w.heap.size,0,none⟩=some (.int .i64 sp):=re1 hbw (ZcU c0) c0
  have hm1:wr.cell? ⟨0,0,none⟩=some (.int .i64 m):=re1 (Below.tr HB.out hbw) (ZcU hm) hm
  have hg:s.data.toList.headD 0=s[0]'(by omega):=Zvf s (by omega)
  rw [hg] at HSP
  have hs0:(0:Int)<s.size:=by omega
  clear hz hbw hS h5 hA c0 hle splitB_sizes hg hm
  rcases hp:Zda s.data.toList with _ | ⟨n,r⟩
  ·rw [hp] at HSP
   have hpr:=fun W h1 h2=>ZnR s W h1 h2 hp
   clear hp
   go_wp2_with (go_at_call 84;refine (hpr _ (by omega) ⟨m,by assumption⟩).mono ?_;rintro e w5 ⟨rfl,hb5⟩;have c2:=re1 hb5 (ZcU c1) c1)
   all_goals
    go_ret
    refine ⟨Za9 ?_,?_⟩
    ·rw [HSP.out]
     simp only [beq_iff_eq,beq_eq_false_iff_ne,ne_eq] at *
     first
      | (rw [ZjV (by omega)];rfl)
      | (rw [ZjW (by omega) (by omega)];rfl)
      | (rw [ZjX (by omega) (by omega)];simp_all;done)
    first | exact Below.tr (Below.tr HB.out HW.out) (by assumption) | exact Below.tr HB.out HW.out
  ·rw [hp] at HSP
   have hpr:=fun W h1 h2=>ZnS s W h1 h2 hp
   clear hp
   go_wp2_with (go_at_call 84;refine (hpr _ (by omega) ⟨m,by assumption⟩).mono ?_;rintro e w5 ⟨rfl,hb5⟩;have c2:=re1 hb5 (ZcU c1) c1)
   all_goals
    go_ret
    refine ⟨Za9 ?_,?_⟩
    ·rw [HSP.out]
     simp only [beq_iff_eq,beq_eq_false_iff_ne,ne_eq] at *
     first
      | (rw [ZjV (by omega)];rfl)
      | (rw [ZjW (by omega) (by omega)];rfl)
      | (rw [ZjX (by omega) (by omega)];simp_all;done)
    first | exact Below.tr (Below.tr HB.out HW.out) (by assumption) | exact Below.tr HB.out HW.out
·go_enter Tryz.func40,Tryz.ntmps40
 have hv:Title.valid ⟨sp,s⟩=false:=by
  cases hV:Title.valid ⟨sp,s⟩ with
  | false=>rfl
  | true=>
    simp only [Title.valid,Bool.and_eq_true,decide_eq_true_eq] at hV
    obtain ⟨⟨⟨⟨⟨⟨⟨ha,hb⟩,hc⟩,hd⟩,hcl⟩,_⟩,_⟩,_⟩:=hV
    exact absurd ⟨⟨ha,hb⟩,⟨hc,hd⟩,hcl⟩ h
 have HV:=Lib.hid hv
 clear hv
 go_wp2_with (first | (go_at_call 82;refine (Zm1 _ _ (by omega)).mono ?_;rintro e w' ⟨rfl,rfl⟩) | (go_at_call 83;exfalso;have h6:(!Zex (-1) s.data.toList)=false:=And.right (by assumption);simp at h6;exact h ⟨⟨by omega,by omega⟩,⟨by omega,by omega⟩,h6⟩))
 all_goals
  go_ret
  exact ⟨Za9 HV.out.symm,Below.al (Below.refl _ _) _⟩}
theorem ZiE:∀ (css:List (List Value)) (xs:List ByteArray),css.length=xs.length->(∀ (i:Nat) (x:ByteArray) (cs:List Value),xs[i]? = some x->css[i]? = some cs->cs = [.string x])->css.flatten=xs.map Value.string
 | [],[],_,_=>rfl
 | [],_::_,h,_=>by simp at h
 | _::_,[],h,_=>by simp at h
 | c::css,x::xs,h,hR=>by
   have h0:=hR 0 x c rfl rfl
   subst h0
   rw [List.flatten_cons,ZiE css xs (by simpa using h) (fun i y cs hy hcs=>hR (i+1) y cs (by simpa using hy) (by simpa using hcs))]
   rfl
theorem OwnL.of_row {w:World} {B:Nat} {E:TypeId} {v:Value} {xs:List ByteArray} (h:w.ownsRow B E 1 v xs.length (xs.map Value.string)):OwnL w B E v xs:=by{
refine ⟨xs.map (fun x=>[.string x]),by simp,?_,fun i x cs hx hcs=>?_⟩
rw [ZiE _ xs (by simp) (fun i x cs hx hcs=>by rw [List.getElem?_map,hx] at hcs;simpa using hcs.symm)]
exact h
rw [List.getElem?_map,hx] at hcs
show cs = [.string x]
simpa using hcs.symm}
end Go.Proofs.YtpffimahajgiaaaGreatDoor
set_option linter.unusedVariables false
namespace Go.Proofs.YtpffimahajgiaaaGreatDoor
open VL Go.RowKit
def Zb8 (t:Title):Option Bool:=some t.valid
theorem Zci (t:Title) (r:Bool) (h:Zb8 t=some r):Zg Tryz.prog 40 [t.pv] (.bool r):=by
 cases h
 exact Zav (vals:=[.agg #[.int .i64 t.space,.string t.name]]) (by kernel_rfl) rfl rfl (fun x=>.bool _) fun w hw=>Zrr t w hw.1
def ZhR (a b:Title):Option Int:=some (Title.cmp a b)
theorem Zmu (a b:Title) (r:Int) (h:ZhR a b=some r):Zg Tryz.prog 36 [a.pv,b.pv] (.int .i64 r):=by
 cases h
 exact Zav (vals:=[.agg #[.int .i64 a.space,.string a.name],.agg #[.int .i64 b.space,.string b.name]]) (by kernel_rfl) rfl rfl (fun x=>.int _ _) fun w _=>ZgY a b w
def strings_Index (s c:ByteArray):Option Int:=if s.size<4294967281 then some (Lib.index s.data.toList c.data.toList) else none
theorem Zei (s c:ByteArray) (r:Int) (h:strings_Index s c=some r):Zg Tryz.prog 144 [.str s,.str c] (.int .i64 r):=by{
unfold strings_Index at h
split at h
rename_i hc
cases h
exact Zav (vals:=[.string s,.string c]) (by kernel_rfl) rfl rfl (fun x=>.int _ _) fun w hw=>by
 obtain ⟨m,hm⟩:=hw.1
 exact (Tryz.strings_Index s c m w hc hm).mono fun e w' ⟨e1,e2⟩=>⟨e1,e2 ▸ Below.refl _ _⟩
cases h}
def strings_Contains (s c:ByteArray):Option Bool:=if s.size<4294967281 then some (Lib.contains s.data.toList c.data.toList) else none
theorem Zb1 (s c:ByteArray) (r:Bool) (h:strings_Contains s c=some r):Zg Tryz.prog 94 [.str s,.str c] (.bool r):=by{
unfold strings_Contains at h
split at h
rename_i hc
cases h
exact Zav (vals:=[.string s,.string c]) (by kernel_rfl) rfl rfl (fun x=>.bool _) fun w hw=>by
 obtain ⟨m,hm⟩:=hw.1
 exact (Tryz.strings_Contains s c m w hc hm).mono fun e w' ⟨e1,e2⟩=>⟨e1,e2 ▸ Below.refl _ _⟩
cases h}
def strings_Cut (s c:ByteArray):Option (ByteArray×ByteArray×Bool):=if s.size<4294967281 then some (⟨(Lib.cut s.data.toList c.data.toList).1.toArray⟩,⟨(Lib.cut s.data.toList c.data.toList).2.1.toArray⟩,(Lib.cut s.data.toList c.data.toList).2.2) else none
theorem Zw2 {x:Ctx} (a b:ByteArray) (c:Bool):Rep x (.tup [.str a,.str b,.bool c]) (.tuple #[.string a,.string b,.bool c]):=.tup _ _ rfl fun i p v hp hv=>by
 match i,hp,hv with
 | 0,hp,hv=>injection hp with hp;injection hv with hv;subst hp hv;exact .str _
 | 1,hp,hv=>injection hp with hp;injection hv with hv;subst hp hv;exact .str _
 | 2,hp,hv=>injection hp with hp;injection hv with hv;subst hp hv;exact .bool _
 | i+3,hp,_=>simp at hp
theorem Zhk (s c:ByteArray) (r:ByteArray×ByteArray×Bool) (h:strings_Cut s c=some r):Zg Tryz.prog 127 [.str s,.str c] (.tup [.str r.1,.str r.2.1,.bool r.2.2]):=by{
unfold strings_Cut at h
split at h
rename_i hc
cases h
exact Zav (vals:=[.string s,.string c]) (by kernel_rfl) rfl rfl (fun x=>Zw2 _ _ _) fun w hw=>by
 obtain ⟨m,hm⟩:=hw.1
 refine (Tryz.strings_Cut s c m w hc hm).mono ?_
 rintro e w' ⟨rfl,n,rfl⟩
 exact ⟨rfl,Below.dn (Below.refl _ _) n⟩
cases h}
def strings_Split (s c:ByteArray):Option (List ByteArray):=if (s.size<4294967281/\1<=c.size)/\Lib.countB s c<=1000000 then some (Lib.splitB c 0 (Lib.countB s c) s) else none
theorem Zjt (s c:ByteArray) (r:List ByteArray) (h:strings_Split s c=some r):ContractN Tryz.prog 83 [.str s,.str c] (.row 9 1 false (List.map csS r)):=by{
unfold strings_Split at h
split at h
rename_i hc
injection h with h
have hlen:r.length=Lib.countB s c+1:=by rw [<- h];exact Lib.splitB_all c hc.1.2 0 _ s rfl
refine Zlx (α:=ByteArray) (vals:=[.string s,.string c]) (enc:=fun x=>[.string x]) (by kernel_rfl) rfl (fun x=>rfl) (fun S w x cs h=>h) (fun x=>rfl) fun w hw=>?_
obtain ⟨m,hm⟩:=hw.1
refine (Tryz.strings_Split s c m w hc.1.1 hm hc.1.2).mono ?_
rintro e w' ⟨rfl,rfl⟩
rw [h,<- hlen]
refine ⟨_,rfl,OwnL.of_row ⟨by simp,.inr ⟨w.heap.size,r.length,_,rfl,Nat.le_refl _,heap_alloc_new w _,Nat.le_refl _,?_,by simp,?_⟩⟩,Below.al (Below.refl _ _) _⟩
unfold maxLen;omega
rw [Nat.mul_one,List.take_of_length_le (by simp)]
cases h}
def strings_Join (L:List ByteArray) (s:ByteArray):Option ByteArray:=if (0<L.length/\L.length<=140737488355328)/\(Lib.join (L.map (·.data.toList)) s.data.toList).length<=140737488355328 then some ⟨(Lib.join (L.map (·.data.toList)) s.data.toList).toArray⟩ else none
theorem ZgH (L:List ByteArray) (s:ByteArray) (r:ByteArray) (h:strings_Join L s=some r):Zg Tryz.prog 19 [.sl (List.map csS L),.str s] (.str r):=by{
unfold strings_Join at h
split at h
rename_i hc
cases h
refine Zds (by kernel_rfl) rfl (fun x=>.str _) fun x vs hp _=>?_
obtain ⟨v,w,rfl,h1,h2⟩:=args2 hp
obtain rfl:=ZpV h2
obtain ⟨A,n,c,rfl,hS⟩:=Zjx hp.flt h1
obtain ⟨q1,q2,q3,q4⟩:=hS
obtain ⟨b,off,css,hA,_,hlt,hx⟩:=q4 (by omega)
subst hA
subst q1
refine Tryz.strings_Join b off c L s x.W (fun j y hy=>?_) hlt hc.1.2 q2 hc.2
obtain ⟨p1,p2⟩:=hx j y hy
have e1:css j = [.string y]:=p1
have:=p2 0 (.string y) (by rw [e1];rfl)
rw [show off+j=off+j * Enc.k ByteArray+0 by show off+j=off+j * 1+0;omega]
exact this
cases h}
def strings_Repeat (s:ByteArray) (c:Int):Option ByteArray:=if 0<=c/\c<=9223372036854775807/\s.size * c.toNat<=140737488355328 then some ⟨(Lib.repeatL s.data.toList c.toNat).toArray⟩ else none
theorem ZdM (s:ByteArray) (c:Int) (r:ByteArray) (h:strings_Repeat s c=some r):Zg Tryz.prog 29 [.str s,.int .i64 c] (.str r):=by{
unfold strings_Repeat at h
split at h
rename_i hc
cases h
obtain ⟨n,rfl⟩:∃ n:Nat,c=n:=⟨c.toNat,by omega⟩
exact Zav (vals:=[.string s,.int .i64 n]) (by kernel_rfl) rfl rfl (fun x=>.str _) fun w hw=>Tryz.strings_Repeat s n w (by omega) (by simpa using hc.2.2)
cases h}
def ZeJ (s:ByteArray):Option (Int×ByteArray×Bool):=if s.size<4294967281 then (match Zda s.data.toList with | some q=>some (q.1,⟨q.2.toArray⟩,true) | none=>some (0,⟨#[]⟩,false)) else none
theorem Zw3 {x:Ctx} (a:Int) (b:ByteArray) (c:Bool):Rep x (.tup [.int .i64 a,.str b,.bool c]) (.tuple #[.int .i64 a,.string b,.bool c]):=.tup _ _ rfl fun i p v hp hv=>by
 match i,hp,hv with
 | 0,hp,hv=>injection hp with hp;injection hv with hv;subst hp hv;exact .int _ _
 | 1,hp,hv=>injection hp with hp;injection hv with hv;subst hp hv;exact .str _
 | 2,hp,hv=>injection hp with hp;injection hv with hv;subst hp hv;exact .bool _
 | i+3,hp,_=>simp at hp
theorem Zkq (s:ByteArray) (r:Int×ByteArray×Bool) (h:ZeJ s=some r):Zg Tryz.prog 84 [.str s] (.tup [.int .i64 r.1,.str r.2.1,.bool r.2.2]):=by{
unfold ZeJ at h
split at h
rename_i hc
have hv:Zh1 s.data.toList = .tuple #[.int .i64 r.1,.string r.2.1,.bool r.2.2]:=by
 unfold Zh1
 cases hp:Zda s.data.toList with
 | none=>rw [hp] at h;injection h with h;subst h;rfl
 | some q=>rw [hp] at h;injection h with h;subst h;rfl
exact Zav (vals:=[.string s]) (by kernel_rfl) rfl rfl (fun x=>Zw3 _ _ _) fun w hw=>by
 rw [<- hv]
 exact Zh2 s w hc hw.1
cases h}
def Zbp (s o n:ByteArray):Option ByteArray:=if (s.size<4294967281/\1<=o.size)/\s.size+Lib.countB s o * n.size<=140737488355328 then some ⟨(Lib.replaceAll s.data.toList o.data.toList n.data.toList).toArray⟩ else none
theorem Zf8 (s o n r:ByteArray) (h:Zbp s o n=some r):Zg Tryz.prog 200 [.str s,.str o,.str n] (.str r):=by{
unfold Zbp at h
split at h
rename_i hc
injection h with h
subst h
exact Zav (vals:=[.string s,.string o,.string n]) (by kernel_rfl) rfl rfl (fun x=>.str _) fun w hw=>by
 obtain ⟨m,hm⟩:=hw.1
 exact (Tryz.strings_ReplaceAll s o n m w hc.1.1 hm hc.1.2 hc.2).mono fun e w' h=>h
cases h}
end Go.Proofs.YtpffimahajgiaaaGreatDoor
namespace Go.Proofs.YtpffimahajgiaaaGreatDoor
namespace VL
section
variable {P:Program} [WInv P] {α β:Type} {cs:List Code} {Q:Ex->FS->Prop} {s:FS} {tm:List (Nat×PV)} {ob:List (Nat×Option (Gen×VObj))} {ng:Nat}
theorem rg {draw:Bool} {id:Nat} {l:List Oper} {q:Prop} (k:q) (h:q->GoL P l.toArray draw 0 l [] s fun s'=>PWs P cs Q ⟨s'.tm,s'.ob,s'.ng+1⟩:=by
 (intro k)
 (refine Zn ?_)
 (exact k)):PWs P (.region id l.toArray draw::cs) Q s:=Za (h k)
theorem bl {id:Nat} {c:Code} {q:Prop} (k:q) (h:q->PWs P [c] (ZmT id (PWs P cs Q) Q) s:=by
 (intro k)
 (refine Zn ?_)
 (exact k)):PWs P (.block id c::cs) Q s:=Zaq (h k)
theorem cS {A B:Option β} {r:β} {c:Operand} {x y:Code} {t:Bool} {q1 q2:Prop} (hF:(if t=true then A else B)=some r) (hc:evL tm c = .bool t) (k1:A=some r->q1) (k2:B=some r->q2)
  (h1:q1->PWs P (x::cs) Q (mkS tm ob ng):=by
 (intro k)
 (refine Zn ?_)
 (exact k)) (h2:q2->PWs P (y::cs) Q (mkS tm ob ng):=by
 (intro k)
 (refine Zn ?_)
 (exact k)):PWs P (.cond c x y::cs) Q (mkS tm ob ng):=
 Zq2 hc (fun h=>h1 (k1 (ifT h hF))) fun h=>h2 (k2 (ifF h hF))
theorem kS (t:Nat) {A B:Option β} {r:β} {ops:Array Oper} {draw:Bool} {i:Nat} {L:List Oper} {acc:List (List Nat×List Nat)} {K:FS->Prop} {b:Bool} {q1 q2:Prop} (hF:(if b=true then A else B)=some r) (hx:look tm t = .bool b) (k1:A=some r->q1) (k2:B=some r->q2)
  (h1:q1->GoL P ops draw i L acc (mkS ((t,.bool true)::tm) ob ng) K:=by
 (intro k)
 (refine Zn ?_)
 (exact k)) (h2:q2->GoL P ops draw i L acc (mkS ((t,.bool false)::tm) ob ng) K:=by
 (intro k)
 (refine Zn ?_)
 (exact k)):GoL P ops draw i L acc (mkS tm ob ng) K:=
 Zv0 t hx (fun h=>h1 (k1 (ifT h hF))) fun h=>h2 (k2 (ifF h hF))
theorem cF {F:Option β} (R:β->PV) {f:FuncId} {fn:Func} {c:Code} {args:List PV} {r:β} (hF:F=some r) (hmix:P.follows .mixedOrders=true) (hf:P.funcs[f]? = some fn)
  (h:∀ r,F=some r->PWs P [c] (ZvC P fn.results.toList (R r)) (mkS (Zdg 0 args) [] 1)) (hg:isGo P f=true:=by kernel_rfl) (hb:fn.body=some c:=by exact rfl) (hok:(decide (args.length<=fn.ntmps)&&ZaU fn.ntmps c)=true:=by kernel_rfl):Zg P f args (R r):=
 Zpc hF hmix hf hg hb hok h
omit [WInv P] in
theorem rQ {res:PV} {rs:List ResultVar} {ps qs:List PV} {us:List (Nat×Option (Gen×VObj))} (h1:Zcr P s rs=some ps:=by exact rfl) (h2:ZfB s.ob ps=some (qs,us):=by exact rfl) (h3:Zcs qs=res:=by exact rfl):ZvC P rs res .ret s:=Zes h1 h2 h3
def sg (σ:List (Nat×Nat×Nat)):List (Gen×Gen):=σ.map fun q=>((1,q.1),q.2)
theorem sR (σ:List (Nat×Nat×Nat)) {tm':List (Nat×PV)} {ob':List (Nat×Option (Gen×VObj))} {ng':Nat} (h1:Zp3 (sg σ) tm tm':=by
 (repeat (refine ⟨rfl,?_⟩))
 (exact trivial)) (h2:Znr (sg σ) ob ob':=by
 (repeat (refine ⟨⟨rfl,rfl⟩,?_⟩))
 (exact trivial)) (h3:(decide (0<ng')&&(sg σ).all fun q=>decide (q.1.1<ng'))=true:=by exact rfl):Shift (mkS tm ob ng) (mkS tm' ob' ng'):=
 ZeY (sg σ) h1 h2 h3
theorem jn {St:α->Nat->FS} {J:α->Prop} (a:α) (h1:J a) (h3:Shift s (St a 2)):ZqQ St J Q .normal s:=ZdB a 2 h1 h3
theorem rn {St:α->Nat->FS} {J:α->Prop} {m:α->Nat} {a:α} (a':α) (h1:J a') (h3:Shift s (St a' 2)) (h2:m a'<m a:=by exact Nat.lt_succ_self _):ZmU St J m a Q .normal s:=Zak a' 2 h1 h2 h3
theorem jL {K:α->Option β} {f:(α->Option β)->Option β} {r:β} {c c2:Code} {q1:(α->Option β)->Prop} {q2:α->Prop} (hF:letk K f=some r) (St:α->FS) (h1:∀ k,f k=some r->q1 k) (h2:∀ x,K x=some r->q2 x)
  (g1:∀ k:α->Option β,q1 k->PWs P [c] (ZqQ (fun a _=>St a) (fun x=>k x=some r) Q) s:=by
 (intro k h)
 (refine Zn ?_)
 (exact h)) (g2:∀ x,q2 x->PWs P (c2::cs) Q (St x):=by
 (intro x h)
 (try dsimp only)
 (refine Zn ?_)
 (exact h)):PWs P (c::c2::cs) Q s:=
 Zbv (fun a _=>St a) (fun x=>K x=some r) (g1 K (h1 K hF)) fun a _ hJ=>g2 a (h2 a hJ)
end
end VL
end Go.Proofs.YtpffimahajgiaaaGreatDoor
namespace Go.Proofs.YtpffimahajgiaaaGreatDoor
namespace VL
open Go.RowKit
def PV.dryF:PV->Bool | .fn _ ps=>ps.isEmpty | p=>p.dry1
theorem Rep.dryF {x y:Ctx} {p:PV} {v:Value} (h:Rep x p v) (hp:p.dryF=true):Rep y p v:=by{
cases h with
| fn f ps cs hl hh=>
  have:ps = []:=List.isEmpty_iff.1 hp
  subst this
  exact .fn f [] cs hl fun i p v hq=>by simp at hq
| bool b=>exact .bool b
| int k n=>exact .int k n
| str s=>exact .str s
| _=>simp [PV.dryF,PV.dry1] at hp}
def Dr (x:Ctx) (b:Nat):Prop:=blk (x.ρ (0,0))=some b
structure PreR (x:Ctx) (args:List PV) (E k:Nat) (els:List (List PV)) (vs:Array Value):Prop where
 size:args.length+1=vs.size
 rep:∀ (i:Nat) (p:PV) (v:Value),(PV.row 0 (0,0)::args)[i]? = some p->vs[i]? = some v->Rep x p v
 ob:x.G (0,0)/\ObRep x x.W.heap.size (Dr x) (0,0) (.row E k false els)
 gen:∀ g,x.G g->g.1=0
 flt:∀ b o,x.F b o->b<x.W.heap.size
structure PostR (x y:Ctx) (E k:Nat) (r:PV) (els':List (List PV)) (v:Value):Prop where
 step:Step x y
 gr:Gr (Dr x) x.W y.W
 fnew:∀ b o,y.F b o->x.F b o\/x.W.heap.size<=b\/Dr x b
 flt:∀ b o,y.F b o->b<y.W.heap.size
 rep:Rep y r v
 ob:ObRep y x.W.heap.size (Dr x) (0,0) (.row E k false els')
structure ContractR (P:Program) [WInv P] (f:FuncId) (args:List PV) (E k:Nat) (els:List (List PV)) (r:PV) (els':List (List PV)):Prop where
 isGo:VL.isGo P f=true
 calls:∀ (x:Ctx) (vs:Array Value),PreR x args E k els vs->(∀ W',Gr (Dr x) x.W W'->WInv.I P W')->Calls P f vs x.W fun e W'=>∃ y v,y.W=W'/\e = .returned v/\PostR x y E k r els' v
section
variable {P:Program} [WInv P] {r:Run} {ops:Array Oper} {o:Oper} {i:Nat} {s s':FS}
theorem Zts {f:FuncId} {es:Array Operand} {ts:Array TypeId} {post:List PV} {t:Nat} {g:Gen} {E k:Nat} {els els':List (List PV)} {res res':PV} (ho:o.op = .call { callee:=.value (.func f),args:=es,argTypes:=ts })
  (he:es.toList.map (ev s) = .row t g::post) (hob:s.ob t=some (g,.row E k false els)) (hp:post.all PV.dryF=true) (hc:ContractR P f post E k els res els') (hres:res.dry=true/\res'=res\/res = .row 0 (0,0)/\res' = .row t g) (hI:r.I=WInv.I P):OpOK P r o i s ⟨res',[(t,some (g,.row E k false els'))]⟩:=by{
intro S a x Q hX hi hd
have hrep:∀ (j:Nat) (p:PV),(PV.row t g::post)[j]? = some p->Rep x p ((es.map a.eval).getD j undef):=fun j p hp=>by
 rw [<- he,List.getElem?_map] at hp
 cases he:es.toList[j]? with
 | none=>rw [he] at hp;simp at hp
 | some e=>
   rw [he] at hp
   simp only [Option.map_some,Option.some.injEq] at hp
   subst hp
   have hea:es[j]? = some e:=by simpa using he
   have:(es.map a.eval).getD j undef=a.eval e:=by simp [hea]
   rw [this]
   exact ZV hX e
obtain ⟨hG,hO⟩:=hX.ob t g _ hob
have hlt:=fun b hb=>hO.lt b hb
obtain ⟨q1,q2,vs2,q3,q4,q5⟩:=hO
let z:Ctx:=⟨fun g'=>g'=(0,0),x.F,x.W,fun _=>x.ρ g⟩
have hpre:PreR z post E k els (es.map a.eval):=by
 refine ⟨?_,fun j p v hj hv=>?_,⟨rfl,q1,q2,vs2,q3,fun m p v hm hv=>?_,fun b hb=>⟨.inr hb,(q5 b hb).2⟩⟩,fun g' e=>?_,hX.flt⟩
 have:=congrArg List.length he
 simp at this
 simp [this]
 cases j with
 | zero=>
   simp only [List.getElem?_cons_zero,Option.some.injEq] at hj
   subst hj
   have:=hrep 0 (.row t g) rfl
   rw [Array.getD_eq_getD_getElem?,hv] at this
   simp only [Option.getD_some] at this
   cases this with
   | row _ _ A n c _ hvv=>exact .row _ _ A n c rfl hvv
 | succ j=>
   have hj':post[j]? = some p:=by simpa using hj
   have:=hrep (j+1) p hj
   rw [Array.getD_eq_getD_getElem?,hv] at this
   exact Rep.dryF this (List.all_eq_true.1 hp p (List.mem_of_getElem? hj'))
 obtain ⟨e,he,hpe⟩:=List.mem_flatten.1 (List.mem_of_getElem? hm)
 exact (q4 m p v hm hv).pure_mono (q2 e he p hpe) (fun _ _ h=>h) (fun _ _ _ _ h=>h)
 rw [show g'=(0,0) from e]
have hbig:r.W0.heap.size<=x.W.heap.size:=hX.gr.size
have hcalls:=hc.calls z _ hpre fun W' hW=>by
 rw [<- hI]
 exact hX.inv.1 W' (hX.gr.trans' hW.os hW.tape hW.output hW.size fun b hb hD=>hW.block b (Nat.lt_of_lt_of_le hb hbig) fun e=>by
  rcases (hlt b e).2 with h | h
  omega
  exact hD h)
unfold Oper.wp
rw [Zej ho hc.isGo,Oper.upon_enter]
refine hcalls.mono ?_
rintro e' W' ⟨y,v,rfl,rfl,hpost⟩
obtain ⟨w1,w2,vs3,w3,w4,w5⟩:=hpost.ob
have hρ:y.ρ (0,0)=x.ρ g:=(hpost.step.G (0,0) rfl).2
rw [hρ] at w3 w5
let y':Ctx:=⟨x.G,y.F,y.W,x.ρ⟩
have k2:Step x y':=⟨fun _ h=>⟨h,rfl⟩,fun b o h=>hpost.step.F b o h,fun b o w hF hw=>hpost.step.W b o w hF hw⟩
refine ⟨y',rfl,hX.change k2 hd hpost.gr.os hpost.gr.tape hpost.gr.output hpost.gr.size (fun b hb hne=>hpost.gr.block b hb fun e=>hne g _ hob e) (fun b o h=>?_) hpost.flt
 (fun g' hg'=>(hX.gens g' hg').imp id fun ⟨e1,e2⟩=>⟨e1,.inl e2⟩) hG ⟨w1,w2,vs3,w3,fun m p v hm hv=>?_,fun b hb=>⟨(hlt b hb).2,(w5 b hb).2⟩⟩ (fun b hb=>.inr ⟨g,_,hob,hb⟩) ?_⟩
rcases hpost.fnew b o h with h1 | h1 | h1
exact .inl h1
exact .inr h1
have:=((w5 b h1).2 o h).1
cases this
obtain ⟨e,he,hpe⟩:=List.mem_flatten.1 (List.mem_of_getElem? hm)
exact (w4 m p v hm hv).pure_mono (w2 e he p hpe) (fun _ _ h=>h) (fun _ _ _ _ h=>h)
have hr:=hpost.rep
rcases hres with ⟨h1,rfl⟩ | ⟨rfl,rfl⟩
exact hr.dry h1
cases hr with
| row _ _ A n c _ hvv=>exact .row _ _ A n c hG (hρ.symm.trans hvv)}
theorem Zrq {f:FuncId} {es:Array Operand} {ts:Array TypeId} {post:List PV} {t:Nat} {g:Gen} {E k:Nat} {els els':List (List PV)} {res res':PV} (hw:Zf ops s o=some true) (ho:o.op = .call { callee:=.value (.func f),args:=es,argTypes:=ts })
  (he:es.toList.map (ev s) = .row t g::post) (hob:s.ob t=some (g,.row E k false els)) (hp:post.all PV.dryF=true) (hc:ContractR P f post E k els res els') (hres:res.dry=true/\res'=res\/res = .row 0 (0,0)/\res' = .row t g):OpR P ops i o s ⟨res',[(t,some (g,.row E k false els'))]⟩:=.any hw fun s' r hA hI=>by
 obtain ⟨e1,e2,_⟩:=Zd5 ho hA
 refine Zts ho (by rw [e1,he]) ?_ hp hc hres hI
 rw [<- e2 (.row t g) (by rw [he];simp) t (by simp [Zjl,Zee,Zc5,ZaG])]
 exact hob
end
section
variable {P:Program} [WInv P] {ops:Array Oper} {draw:Bool} {i:Nat} {L:List Oper} {acc:List (List Nat×List Nat)} {K:FS->Prop} {tm:List (Nat×PV)} {ob:List (Nat×Option (Gen×VObj))} {ng:Nat}
 {d:Option Tmp} {ty:TypeId} {pos:String} {after:Array Edge} {gd:Option (Nat×Bool)}
theorem Zdj {f:FuncId} {es:Array Operand} {ts:Array TypeId} {post:List PV} {t:Nat} {g:Gen} {E k:Nat} {els els':List (List PV)} {res:PV} (hc:ContractR P f post E k els res els') (hw:Zf ops (mkS tm ob ng) ⟨d,.call ⟨.value (.func f),es,ts⟩,ty,pos,after,gd⟩=some true)
  (he:es.toList.map (evL tm) = .row t g::post) (hob:Zm ob t=some (g,.row E k false els)) (hp:post.all PV.dryF=true) (hd:res.dry=true)
  (kk:GoL P ops draw (i+1) L (acc ++ [(ZA (mkS tm ob ng) ⟨d,.call ⟨.value (.func f),es,ts⟩,ty,pos,after,gd⟩,[t])]) (mkS (ZaW d res tm) ((t,some (g,.row E k false els'))::ob) ng) K) :
  GoL P ops draw i (⟨d,.call ⟨.value (.func f),es,ts⟩,ty,pos,after,gd⟩::L) acc (mkS tm ob ng) K:=by
 refine Zc1 (Zrq hw rfl (by rw [ZR];exact he) hob hp hc (.inl ⟨hd,rfl⟩)) ?_
 rw [ZaS]
 exact kk
end
def ZnQ (args:List PV) (E k:Nat) (els:List (List PV)):FS:=⟨fun t=>(PV.row 0 (0,0)::args).getD t (.tup []),Zm [(0,some ((0,0),.row E k false els))],1⟩
theorem Zgr {args:List PV} {E k:Nat} {els:List (List PV)} {t:Nat} {g:Gen} {o:VObj} (h:(ZnQ args E k els).ob t=some (g,o)):t=0/\g=(0,0)/\o = .row E k false els:=by{
change (if t=0 then some ((0,0),VObj.row E k false els) else none)=some (g,o) at h
split at h
rename_i e
injection h with h
injection h with e1 e2
exact ⟨e,e1.symm,e2.symm⟩
cases h}
def ZwB (P:Program) (rs:List ResultVar) (res:PV) (E k:Nat) (els':List (List PV)):Ex->FS->Prop | .exit _,_=>False | _,s=>∃ ps,Zcr P s rs=some ps/\Zcs ps=res/\s.ob 0=some ((0,0),.row E k false els')
theorem Zt7 {P:Program} {s:FS} {rs:List ResultVar} {res:PV} {E k:Nat} {els':List (List PV)} {ps:List PV} (h1:Zcr P s rs=some ps) (h2:Zcs ps=res) (h3:s.ob 0=some ((0,0),.row E k false els')):ZwB P rs res E k els' .ret s:=⟨ps,h1,h2,h3⟩
theorem Zew {P:Program} {s:FS} {rs:List ResultVar} {res:PV} {E k:Nat} {els':List (List PV)} {ps:List PV} (h1:Zcr P s rs=some ps) (h2:Zcs ps=res) (h3:s.ob 0=some ((0,0),.row E k false els')):ZwB P rs res E k els' .normal s:=⟨ps,h1,h2,h3⟩
section
variable {P:Program} [WInv P]
theorem Ziz (hmix:P.follows .mixedOrders=true) {f:FuncId} {fn:Func} {c:Code} {args:List PV} {E k:Nat} {els els':List (List PV)} {e:Ex} {s1:FS} {ps:List PV} {res:PV}
  (hg:isGo P f=true) (hf:P.funcs[f]? = some fn) (hb:fn.body=some c) (hn:args.length+1<=fn.ntmps) (hok:ZaU fn.ntmps c=true) (hrun:RunC P c (ZnQ args E k els) e s1) (he:e = .normal\/e = .ret)
  (hres:Zcr P s1 fn.results.toList=some ps) (hps:Zcs ps=res) (hob:s1.ob 0=some ((0,0),.row E k false els')):ContractR P f args E k els res els':=by{
subst hps
refine ⟨hg,fun x vs hpre hinv=>?_⟩
let r:Run:=⟨x.W,Dr x,(vs++Array.replicate (fn.ntmps-vs.size) undef).size,x.F,x.G,x.ρ,WInv.I P⟩
have hNr:r.N=fn.ntmps:=by
 have:=hpre.size
 simp [r]
 omega
have hX:RstX r (fun _=>False) (ZnQ args E k els) { tmps:=vs++Array.replicate (fn.ntmps-vs.size) undef,defers:=[] } x:=by
 refine ⟨rfl,rfl,Gr.refl _ _,fun g hg=>?_,fun t=>?_,fun t g o ho=>?_,fun t t' g g' o o' b hne h1 h2 hb1 hb2=>?_,hpre.flt,fun _ _ h=>h,fun _ _ h=>.inl h,fun _ h=>⟨h,rfl⟩,⟨hinv,hpre.gen⟩,fun _ _ _ _ h=>h⟩
 rw [hpre.gen g hg]
 exact .inl Nat.zero_lt_one
 show Rep x ((PV.row 0 (0,0)::args).getD t (.tup [])) _
 rw [Array.getD_eq_getD_getElem?,Array.getElem?_append,List.getD_eq_getElem?_getD]
 by_cases ht:t<vs.size
 have hl:t<(PV.row 0 (0,0)::args).length:=by
  rw [List.length_cons,hpre.size]
  exact ht
 rw [if_pos ht,List.getElem?_eq_getElem hl,Array.getElem?_eq_getElem ht]
 exact hpre.rep t _ _ (List.getElem?_eq_getElem hl) (Array.getElem?_eq_getElem ht)
 rw [if_neg ht,List.getElem?_eq_none (by rw [List.length_cons,hpre.size];omega)]
 have:(Array.replicate (fn.ntmps-vs.size) undef)[t-vs.size]?.getD undef=undef:=by
  rw [Array.getElem?_replicate]
  split<;>rfl
 rw [this]
 exact .tup [] #[] rfl (fun i p v hp=>by simp at hp)
 obtain ⟨rfl,rfl,rfl⟩:=Zgr ho
 exact hpre.ob
 exact absurd ((Zgr h1).1.trans (Zgr h2).1.symm) hne
refine calls_of_wp hf hb ?_
refine (Zd4 hmix hrun).1 r _ x _ ⟨rfl,by rw [hNr];exact hok⟩ hX fun a' y hY=>?_
obtain ⟨ws,h1,h2,h3⟩:=ZbP hY fn.results.toList hres
have hstep:Step x y:=⟨fun g hg=>hY.rho g hg,fun b o hb=>hY.f0 b o hb,fun b o v hb hv=>hY.keep b o v hb hv⟩
have hend:(results fn a'.tmps).run P y.W = .ok (if ws.length=1 then ws.getD 0 undef else .tuple ws.toArray) y.W:=by
 have:(fn.results.mapM (Znp a')).run P y.W = .ok ws.toArray y.W:=by
  rw [Array.mapM_eq_mapM_toList,map_eq_pure_bind,Sem.run_bind,h1]
  rfl
 have e:results fn a'.tmps=(fn.results.mapM (Znp a') >>= fun vs=>pure (if h:vs.size=1 then vs[0] else .tuple vs)):=by
  unfold results
  congr 1
 rw [e,Sem.run_bind,this]
 simp only [Result.andThen_ok,Sem.run_pure]
 congr 1
 by_cases hl:ws.length=1
 simp [hl]
 simp [hl]
have hfin:∃ v,(results fn a'.tmps).run P y.W = .ok v y.W/\(fun e W'=>∃ y v,y.W=W'/\e=Ending.returned v/\PostR x y E k (Zcs ps) els' v) (Ending.returned v) y.W:=by
 refine ⟨_,hend,y,_,rfl,rfl,hstep,hY.gr,hY.fnew,hY.flt,?_,(hY.ob 0 _ _ hob).2⟩
 have hlq:ps.length=ws.length:=h2.symm
 unfold Zcs
 split
 rename_i p
 rw [if_pos (by simpa using hlq.symm)]
 exact h3 0 p rfl
 rename_i hne
 have hn1:¬ ws.length=1:=fun h=>by
  rw [h] at hlq
  match ps,hlq with
  | [q],_=>exact hne q rfl
 rw [if_neg hn1]
 refine .tup ps ws.toArray (by simpa using hlq) fun j q v hq hv=>?_
 have:=h3 j q hq
 have hv':ws[j]? = some v:=by simpa using hv
 rw [List.getD_eq_getElem?_getD,hv'] at this
 exact this
rcases he with rfl | rfl
exact ⟨hY.defers,hfin⟩
exact ⟨hY.defers,hfin⟩}
theorem ZlK (hmix:P.follows .mixedOrders=true) {f:FuncId} {fn:Func} {c:Code} {args:List PV} {E k:Nat} {els els':List (List PV)} {res:PV} (hf:P.funcs[f]? = some fn) (hg:isGo P f=true) (hb:fn.body=some c) (hok:(decide (args.length+1<=fn.ntmps)&&ZaU fn.ntmps c)=true)
  (h:PWs P [c] (ZwB P fn.results.toList res E k els') (mkS (Zdg 0 (.row 0 (0,0)::args)) [(0,some ((0,0),.row E k false els))] 1)):ContractR P f args E k els res els':=by{
simp only [Bool.and_eq_true,decide_eq_true_eq] at hok
obtain ⟨e,s',h1,h2⟩:=Zcc h
have hsh:Shift (ZnQ args E k els) (mkS (Zdg 0 (.row 0 (0,0)::args)) [(0,some ((0,0),.row E k false els))] 1):=Zdf (fun t=>by
 rcases ZcE (PV.row 0 (0,0)::args) 0 t with h | ⟨_,h⟩
 exact .inl h
 exact .inr h) (fun t=>.inr rfl) (Nat.le_refl _)
cases e with
| exit id=>exact h2.elim
| normal=>
  obtain ⟨ps,q1,q2,q3⟩:=h2
  exact Ziz hmix hg hf hb hok.1 hok.2 (.shift hsh h1) (.inl rfl) q1 q2 q3
| ret=>
  obtain ⟨ps,q1,q2,q3⟩:=h2
  exact Ziz hmix hg hf hb hok.1 hok.2 (.shift hsh h1) (.inr rfl) q1 q2 q3}
end
end VL
end Go.Proofs.YtpffimahajgiaaaGreatDoor
namespace Go.Proofs.YtpffimahajgiaaaGreatDoor
namespace VL
open Go.RowKit
theorem Zdm {P:Program} [WInv P] {β:Type} {F:Option β} {R:β->PV} {O:β->List (List PV)} {f:FuncId} {fn:Func} {c:Code} {args:List PV} {E k:Nat} {els:List (List PV)} {r:β} (hF:F=some r) (hmix:P.follows .mixedOrders=true) (hf:P.funcs[f]? = some fn) (hg:isGo P f=true) (hb:fn.body=some c) (hok:(decide (args.length+1<=fn.ntmps)&&ZaU fn.ntmps c)=true)
  (h:∀ r,F=some r->PWs P [c] (ZwB P fn.results.toList (R r) E k (O r)) (mkS (Zdg 0 (.row 0 (0,0)::args)) [(0,some ((0,0),.row E k false els))] 1)):ContractR P f args E k els (R r) (O r):=ZlK hmix hf hg hb hok (h r hF)
def dn:PV->PV | .nil=>.sl [] | p=>p
theorem ZtW {x:Ctx} {p:PV} {v:Value} (h:Rep x p v):Rep x (dn p) v:=by{
cases h with
| nil=>exact .sl [] none 0 0 0 0 0 (fun _ _=>.int .i64 0) rfl (Nat.le_refl _) (by omega) (by simp) (by omega) (by simp) (by simp)
| bool b=>exact .bool b
| int k n=>exact .int k n
| str s=>exact .str s
| un v=>exact .un v
| agg ps cs hl h=>exact .agg ps cs hl h
| tup ps cs hl h=>exact .tup ps cs hl h
| sl els A n c k b off f h1 h2 h3 h4 h5 h6 h7=>exact .sl els A n c k b off f h1 h2 h3 h4 h5 h6 h7
| ptr t g off b h1 h2=>exact .ptr t g off b h1 h2
| elp t g i k off b h1 h2=>exact .elp t g i k off b h1 h2
| row t g A n c h1 h2=>exact .row t g A n c h1 h2
| suf t g i k A A' n c c' h1 h2 h3 h4 h5=>exact .suf t g i k A A' n c c' h1 h2 h3 h4 h5
| mp t g b h1 h2=>exact .mp t g b h1 h2
| cel cs b off f h1 h2=>exact .cel cs b off f h1 h2
| fn f ps cs hl h=>exact .fn f ps cs hl h}
end VL
end Go.Proofs.YtpffimahajgiaaaGreatDoor
namespace Go.Proofs.YtpffimahajgiaaaGreatDoor
namespace VL
open Go.RowKit
section
variable {P:Program} {r:Run} {o:Oper} {i:Nat} {s:FS}
theorem ZtB {x:Ctx} {B:Nat} {D:Nat->Prop} {g:Gen} {E k m c:Nat} {sh:Bool} {els:List (List PV)} {A:Option Addr} (h:ObRep x B D g (.row E k sh els)) (hv:x.ρ g = .slice A m c) :
  m=els.length/\els.length<=c/\c<=9223372036854775807/\(0<els.length->∃ b,A=some ⟨b,0,none⟩):=by{
obtain ⟨_,_,vs,h3,_,_⟩:=h
rcases h3.2 with ⟨hn,hl⟩ | ⟨b,cap,cur,hv2,_,_,hc,hm,_⟩
rw [hv] at hn
injection hn with e1 e2 e3
exact ⟨by omega,by omega,by omega,fun h=>by omega⟩
rw [hv] at hv2
injection hv2 with e1 e2 e3
subst e3
exact ⟨e2,hc,by unfold maxLen at hm;omega,fun _=>⟨b,e1⟩⟩}
theorem Zww {T:TypeId} {e w:Operand} {E E' a1 a2 t k n:Nat} {a3:List PV} {te:TI} {g:Gen} {sh:Bool} {els:List (List PV)} (ho:o.op = .slice T e (some w) none none) (ht:tyI P T=some ⟨.slice E,a1,a2,a3⟩) (hte:tyI P E=some te)
  (he:ev s e = .row t g) (hob:ZX s.ob t g=some (.row E' k sh els)) (hn:toNat? (ev s w)=some n) (hnl:n<=els.length) (hk:k=te.size):OpOK P r o i s ⟨.suf t g n k,[]⟩:=by{
intro S a x Q hX hi hd
subst hk
obtain ⟨inf,z,h1,_⟩:=ZO ht
obtain ⟨inf',z',h1',h2',_,h4',_,_⟩:=ZO hte
have hr:=ZV hX e
obtain ⟨kd,hw⟩:=ZbK hn (ZV hX w)
obtain ⟨hg,hO⟩:=hX.ob t g _ (ZT hob)
rw [he] at hr
generalize hv:a.eval e=v at hr
cases hr with
| row _ _ A m c hG hvv=>
  obtain ⟨rfl,hlc,hcm,hA⟩:=ZtB hO hvv
  have hb:(Instr.sliceBounds true els.length c (some (a.eval w)) none none).run P x.W = .ok (n,els.length,c) x.W:=by
   simp [Instr.sliceBounds,Instr.sliceBound,asIntOf,hw,hnl]
  refine ZQ (v:=.slice (if c=n then A else A.map (·.add (n * te.size))) (els.length-n) (c-n)) (W':=x.W) ?_ (hX.val hd ?_)
  unfold execOp
  rw [ho]
  simp [hv,Instr.sliceAt,Instr.slice,run_underlying h1,hb,sizeOf,typeInfo,h2',h4']
  refine .suf t g n te.size A _ els.length c _ hG hvv hnl ⟨hlc,hcm⟩ fun hlt=>?_
  obtain ⟨b,rfl⟩:=hA (by omega)
  exact ⟨b,rfl,by rw [if_neg (by omega)];simp only [Option.map_some,ZbB,Nat.zero_add]⟩}
theorem Zvn {T:TypeId} {e:Operand} {E E' a1 a2 t k k' n:Nat} {a3:List PV} {g:Gen} {sh:Bool} {els:List (List PV)} (ho:o.op = .call { callee:=.builtin .len,args:=#[e],argTypes:=#[T] }) (ht:tyI P T=some ⟨.slice E,a1,a2,a3⟩)
  (he:ev s e = .suf t g n k) (hob:ZX s.ob t g=some (.row E' k' sh els)):OpOK P r o i s ⟨.int .i64 ((els.length-n:Nat):Int),[]⟩:=by{
intro S a x Q hX hi hd
obtain ⟨inf,z,h1,_⟩:=ZO ht
have hr:=ZV hX e
obtain ⟨hg,hO⟩:=hX.ob t g _ (ZT hob)
rw [he] at hr
generalize hv:a.eval e=v at hr
cases hr with
| suf _ _ _ _ A A' m c c' hG hvv h3 h4 h5=>
  obtain ⟨rfl,_⟩:=ZtB hO hvv
  refine ZQ (v:=.int .i64 ((els.length-n:Nat):Int)) (W':=x.W) ?_ (hX.val hd (.int _ _))
  unfold execOp
  rw [ho]
  simp [resolve,invoke,builtin,Builtin.len_,hv,run_underlying h1,goInt]}
theorem ZrR {T:TypeId} {e e':Operand} {E E' a1 a2 t k q n:Nat} {a3:List PV} {te:TI} {g:Gen} {sh:Bool} {els:List (List PV)} (ho:o.op = .indexAddr T e e') (ht:tyI P T=some ⟨.slice E,a1,a2,a3⟩) (hte:tyI P E=some te) (he:ev s e = .suf t g q k)
  (hn:toNat? (ev s e')=some n) (hob:ZX s.ob t g=some (.row E' k sh els)) (hnl:q+n<els.length) (hk:k=te.size):OpOK P r o i s ⟨.elp t g (q+n) k 0,[]⟩:=by{
intro S a x Q hX hi hd
subst hk
obtain ⟨inf,z,h1,_⟩:=ZO ht
obtain ⟨inf',z',h1',h2',_,h4',_,_⟩:=ZO hte
have hr:=ZV hX e
obtain ⟨kd,hidx⟩:=ZbK hn (ZV hX e')
have key:∀ (ad:Addr) (len cap:Nat),a.eval e = .slice (some ad) len cap->n<len->(execOp a.eval o).run P x.W = .ok (.value (.pointer (some (ad.add (n * te.size))))) x.W:=fun ad len cap hv hlt=>by
 unfold execOp
 rw [ho]
 have:(0:Int)<=n/\(n:Int)<len:=by omega
 simp [hv,hidx,Instr.indexAt,asIntOf,run_underlying h1,sizeOf,typeInfo,h2',h4',hlt]
rw [he] at hr
obtain ⟨hg,hO⟩:=hX.ob t g _ (ZT hob)
generalize hv:a.eval e=v at hr key
cases hr with
| suf _ _ _ _ A A' m c c' hG hvv h3 h4 h5=>
  obtain ⟨rfl,_⟩:=ZtB hO hvv
  obtain ⟨b,rfl,rfl⟩:=h5 (by omega)
  refine ZQ (key _ _ _ rfl (by omega)) (hX.val hd ?_)
  rw [ZbB,<- Nat.add_mul]
  have:=Rep.elp (x:=x) t g (q+n) te.size 0 b hG (by rw [hvv];rfl)
  rw [Nat.add_zero] at this
  exact this}
theorem ZrS {T:TypeId} {e w:Operand} {E E0 a1 a2 t k n:Nat} {a3:List PV} {te:TI} {g:Gen} {els:List (List PV)} (ho:o.op = .slice T e none (some w) none) (ht:tyI P T=some ⟨.slice E,a1,a2,a3⟩) (hte:tyI P E=some te)
  (he:ev s e = .row t g) (hob:ZX s.ob t g=some (.row E0 k false els)) (hn:toNat? (ev s w)=some n) (hnl:n<=els.length):OpOK P r o i s ⟨.row t (s.ng,i),[(t,some ((s.ng,i),.row E0 k false (els.take n)))]⟩:=by{
intro S a x Q hX hi hd
obtain ⟨inf,z,h1,_⟩:=ZO ht
obtain ⟨inf',z',h1',h2',_,h4',_,_⟩:=ZO hte
have hr:=ZV hX e
obtain ⟨kd,hw⟩:=ZbK hn (ZV hX w)
have hob':=ZT hob
obtain ⟨hg,hO⟩:=hX.ob t g _ hob'
obtain ⟨q1,q2,vs,h3,q4,q5⟩:=hO
rw [he] at hr
generalize hv:a.eval e=v at hr
cases hr with
| row _ _ A m c hG hvv=>
  rw [hvv] at h3
  have hmc:m=els.length/\els.length<=c/\(A=none/\c=0/\els.length=0\/∃ b,A=some ⟨b,0,none⟩):=by
   rcases h3.2 with ⟨hn0,hl⟩ | ⟨b,cap,cur,hv2,_,_,hc,_⟩
   injection hn0 with e1 e2 e3
   exact ⟨by omega,by omega,.inl ⟨e1,by omega,hl⟩⟩
   injection hv2 with e1 e2 e3
   subst e3
   exact ⟨e2,hc,.inr ⟨b,e1⟩⟩
  obtain ⟨rfl,hlc,hA⟩:=hmc
  have hb:(Instr.sliceBounds true els.length c none (some (a.eval w)) none).run P x.W = .ok (0,n,c) x.W:=by
   have hhc:(0:Int)<=n/\(n:Int)<=c:=by omega
   have hhc2:n<=c:=by omega
   simp [Instr.sliceBounds,Instr.sliceBound,asIntOf,hw,hhc2]
  have hsame:(if c=0 then A else A.map (·.add (0 * te.size)))=A:=by
   rcases hA with ⟨rfl,rfl,_⟩ | ⟨b,rfl⟩
   rfl
   split
   rfl
   simp only [Option.map_some,ZbB,Nat.zero_mul,Nat.add_zero]
  refine ZQ (v:=.slice A n c) (W':=x.W) ?_ ?_
  unfold execOp
  rw [ho]
  have hb':=hb
  simp [hv,Instr.sliceAt,Instr.slice,run_underlying h1,hb',sizeOf,typeInfo,h2',h4']
  have:=hsame
  simp at this
  exact this
  refine hX.newObj hi hd rfl rfl rfl (Nat.le_refl _) (fun b hb _=>rfl) (fun b o v hF hv=>hv) (v0:=.slice A n c) (fun b hb=>.inr ⟨g,_,hob',?_⟩) (fun y st hF hW hρ=>⟨fun el hel=>q1 el (List.mem_of_mem_take hel),fun el hel=>q2 el (List.mem_of_mem_take hel),vs.take (n * k),?_,fun m' q u hq hu=>?_,fun b hb=>⟨?_,fun o ho=>?_⟩⟩) (fun y st hW hG hρ=>.row _ _ _ _ _ hG hρ)
  rw [hvv]
  rcases hA with ⟨rfl,rfl,_⟩ | ⟨b',rfl⟩
  simp [blk] at hb
  exact hb
  rw [hρ,hW]
  have hlt:(els.take n).length=n:=by rw [List.length_take];omega
  rw [hlt]
  have hvl:vs.length=els.length * k:=h3.1
  have hnk:n * k<=els.length * k:=Nat.mul_le_mul_right _ hnl
  refine ⟨by rw [List.length_take];omega,?_⟩
  rcases h3.2 with ⟨hn0,hl⟩ | ⟨b,cap,cur,hv2,hB,hh,hc,hm,hs,htk⟩
  injection hn0 with e1 e2 e3
  exact .inl ⟨by rw [e1,e3,show n=0 by omega],by omega⟩
  injection hv2 with e1 e2 e3
  subst e1 e3
  refine .inr ⟨b,c,cur,rfl,hB,hh,by omega,hm,hs,?_⟩
  rw [<- htk,List.take_take,Nat.min_eq_left hnk]
  have hlf:(els.take n).flatten=els.flatten.take (n * k):=by
   have h6:els.flatten=(els.take n).flatten++(els.drop n).flatten:=by rw [<- List.flatten_append,List.take_append_drop]
   have h7:(els.take n).flatten.length=n * k:=by
    rw [Zan (k:=k) _ (fun el hel=>q1 el (List.mem_of_mem_take hel)),List.length_take]
    have:min n els.length=n:=by omega
    rw [this]
   rw [h6,<- h7,List.take_left']
   rfl
  rw [hlf,List.getElem?_take] at hq
  rw [List.getElem?_take] at hu
  split at hq
  rename_i hm'
  rw [if_pos hm'] at hu
  exact (q4 m' q u hq hu).step st
  cases hq
  rw [hρ] at hb
  refine (q5 b ?_).1
  rw [hvv]
  rcases hA with ⟨rfl,rfl,_⟩ | ⟨b',rfl⟩
  simp [blk] at hb
  exact hb
  rw [hρ] at hb
  rw [hF] at ho
  refine absurd ((q5 b ?_).2 o ho).1 (by decide)
  rw [hvv]
  rcases hA with ⟨rfl,rfl,_⟩ | ⟨b',rfl⟩
  simp [blk] at hb
  exact hb}
theorem ZrT {T:TypeId} {e:Operand} {E E' a1 a2 t k q:Nat} {a3 zc:List PV} {te:TI} {g:Gen} {els:List (List PV)} (ho:o.op = .call { callee:=.builtin .clear,args:=#[e],argTypes:=#[T] }) (ht:tyI P T=some ⟨.slice E,a1,a2,a3⟩) (hte:tyI P E=some te)
  (he:ev s e = .suf t g q k) (hob:ZX s.ob t g=some (.row E' k false els)) (hk:k=te.size) (hz:te.zero.map dn=zc) (hp:∀ p ∈ zc,p.pure=true) (hlen:te.zero.length=te.size) (hpos:0<te.size) :
  OpOK P r o i s ⟨.tup [],[(t,some (g,.row E' k false (els.take q++List.replicate (els.length-q) zc)))]⟩:=by{
intro S a x Q hX hi hd
subst hk
obtain ⟨inf,z,h1,_⟩:=ZO ht
obtain ⟨inf',z',h1',h2',h3',h4',h5',h6'⟩:=ZO hte
have hr:=ZV hX e
have hob':=ZT hob
obtain ⟨hg,hO⟩:=hX.ob t g _ hob'
have hO':=hO
obtain ⟨h1e,h2e,vs,h3e,h4e,h5e⟩:=hO
rw [he] at hr
generalize hv:a.eval e=v at hr
have htup:Rep x (.tup []) (.tuple #[]):=.tup [] #[] rfl (fun i p v hp=>by simp at hp)
cases hr with
| suf _ _ _ _ A A' m c c' hG hvv h3 h4 h5=>
  obtain ⟨rfl,_,_,_⟩:=ZtB hO' hvv
  by_cases hlt:q<els.length
  obtain ⟨b,rfl,rfl⟩:=h5 hlt
  rcases h3e.2 with ⟨hn,_⟩ | ⟨b2,cap,cur,hv2,hB2,hh,hnc,hcm2,hcs,htake⟩
  rw [hvv] at hn
  cases hn
  rw [hvv] at hv2
  injection hv2 with q1 q2 q3
  injection q1 with q1
  injection q1 with q1
  subst q1 q3
  obtain ⟨m,hm⟩:∃ m,els.length-q=m+1:=⟨els.length-q-1,by omega⟩
  have hzs:z'.cells.size=te.size:=by rw [<- hlen,h6'];simp
  have hzl:zc.length=te.size:=by rw [<- hz,List.length_map,hlen]
  have hvl:vs.length=els.length * te.size:=h3e.1
  have hcap:els.length * te.size<=c * te.size:=Nat.mul_le_mul_right _ hnc
  have hsum:q * te.size+(els.length-q) * te.size=els.length * te.size:=by rw [<- Nat.add_mul];congr 1;omega
  generalize hcl:(Builtin.zeroCells z'.cells (els.length-q)).toList=zs
  have hzsl:zs.length=(els.length-q) * te.size:=by rw [<- hcl];simp [Builtin.zeroCells,hzs]
  have hzone:∀ v ∈ zs,v.oneCell'=true:=fun v hv=>by
   rw [<- hcl] at hv
   obtain ⟨j,hj⟩:=List.getElem?_of_mem hv
   have hj2:=hj
   simp only [Builtin.zeroCells,Array.getElem?_toList,Array.getElem?_map] at hj
   have hjl:j<(els.length-q) * z'.cells.size:=by
    have:=(List.getElem?_eq_some_iff.1 hj2).1
    simpa [Builtin.zeroCells] using this
   rw [Array.getElem?_range,if_pos hjl] at hj
   simp only [Option.map_some,Option.some.injEq] at hj
   have hj3:j % z'.cells.size<z'.cells.size:=Nat.mod_lt _ (by omega)
   rw [getElem!_pos z'.cells _ hj3] at hj
   have hq:zc[j % z'.cells.size]? = some (dn (Zbu z'.cells[j % z'.cells.size])):=by rw [<- hz,h6'];simp [hj3]
   have:=(ZtW (Zcl x z'.cells[j % z'.cells.size])).one (PV.cell_of_pure (hp _ (List.mem_of_getElem? hq)))
   rw [hj] at this
   exact this
  have hreps:∀ (j:Nat) (p:PV) (v:Value),(List.replicate (els.length-q) zc).flatten[j]? = some p->zs[j]? = some v->Rep x p v:=fun j p v hp hv=>by
   have hk:∀ e ∈ List.replicate (els.length-q) zc,e.length=te.size:=fun e he=>by rw [List.eq_of_mem_replicate he,hzl]
   have hjl:j<(els.length-q) * te.size:=by
    have:=(List.getElem?_eq_some_iff.1 hp).1
    rw [Zan _ hk] at this
    simpa using this
   have hi':j / te.size<els.length-q:=Nat.div_lt_of_lt_mul (by rw [Nat.mul_comm];exact hjl)
   have hj':j % te.size<te.size:=Nat.mod_lt _ hpos
   have hem:j / te.size * te.size+j % te.size=j:=by rw [Nat.mul_comm];exact Nat.div_add_mod j _
   have he:(List.replicate (els.length-q) zc)[j / te.size]? = some zc:=by rw [List.getElem?_replicate,if_pos hi']
   have hj2:j % te.size<z'.cells.size:=by rw [hzs];exact hj'
   have hq:zc[j % te.size]? = some (dn (Zbu z'.cells[j % te.size])):=by rw [<- hz,h6'];simp [hj2]
   have:=Zev (k:=te.size) (List.replicate (els.length-q) zc) hk _ _ _ _ he hq
   rw [hem,hp] at this
   injection this with this
   subst this
   rw [<- hcl] at hv
   simp only [Builtin.zeroCells,Array.getElem?_toList,Array.getElem?_map] at hv
   rw [Array.getElem?_range,if_pos (by rw [hzs];exact hjl),hzs] at hv
   simp only [Option.map_some,Option.some.injEq] at hv
   rw [getElem!_pos z'.cells (j % te.size) hj2] at hv
   subst hv
   exact ZtW (Zcl x _)
  have hst:=run_storeCells_at P b (q * te.size) E' zs 0 cur x.W hh (by omega) hzone
  simp only [Nat.add_zero] at hst
  have hF:∀ b' o',x.F b' o'->b'≠b:=fun b' o' hFF e=>by
   subst e
   have:=((h5e b' (by rw [hvv];rfl)).2 o' hFF).1
   cases this
  let W':=x.W.setRow b (cur.toList.take (q * te.size)++zs++cur.toList.drop (q * te.size+zs.length)).toArray
  have k2:Step x ⟨x.G,x.F,W',x.ρ⟩:=⟨fun _ h=>⟨h,rfl⟩,fun _ _ h=>h,fun b' o' v' hFF hv'=>(Zcf x.W b _ (hF b' o' hFF)).trans hv'⟩
  have hsz:W'.heap.size=x.W.heap.size:=by simp [W',World.setRow]
  have hlen2:(els.take q++List.replicate (els.length-q) zc).length=els.length:=by simp;omega
  refine ZQ (v:=.tuple #[]) (W':=W') ?_ ⟨⟨x.G,x.F,W',x.ρ⟩,rfl,?_⟩
  unfold execOp
  rw [ho]
  have hzv:∀ w,(zeroValue E).run P w = .ok z' w:=fun w=>by simp [zeroValue,typeInfo,h2',h3']
  simp [resolve,invoke,builtin,Builtin.clear_,hv,run_underlying h1,hzv,hm]
  rw [<- hm,hcl,hst]
  simp [W']
  refine hX.change k2 hd rfl rfl rfl (by rw [hsz];exact Nat.le_refl _) (fun b' hb' hne=>setRow_other x.W b b' _ (fun e=>hne g _ hob' (by rw [hvv,e];rfl))) (fun _ _ h=>.inl h) (fun b' o' hb'=>by show b'<W'.heap.size;rw [hsz];exact hX.flt b' o' hb')
   (fun g' hg'=>(hX.gens g' hg').imp id fun ⟨e1,e2⟩=>⟨e1,.inl e2⟩) hg ?_ (fun b' hb'=>.inr ⟨g,_,hob',hb'⟩) (htup.step k2)
  refine ⟨fun e2 he2=>?_,fun e2 he2 p hpp=>?_,vs.take (q * te.size)++zs++vs.drop (q * te.size+zs.length),?_,fun m' p v' hpp hvv'=>?_,fun b' hb'=>⟨(h5e b' hb').1,fun o' hFF=>?_⟩⟩
  rcases List.mem_append.1 he2 with h | h
  exact h1e e2 (List.mem_of_mem_take h)
  rw [List.eq_of_mem_replicate h,hzl]
  rcases List.mem_append.1 he2 with h | h
  exact h2e e2 (List.mem_of_mem_take h) p hpp
  rw [List.eq_of_mem_replicate h] at hpp
  exact hp p hpp
  refine ⟨?_,.inr ⟨b,c,_,by change x.ρ g=_;rw [hvv,hlen2],hB2,setRow_heap x.W b cur _ E' (0,0) hh,by rw [hlen2];exact hnc,hcm2,?_,?_⟩⟩
  rw [hlen2];simp;omega
  simp;omega
  rw [hlen2,<- htake]
  exact ZgK cur.toList zs (q * te.size) (els.length * te.size) (by omega) (by have e:cur.toList.length=cur.size:=(by simp);omega)
  have hflat:(els.take q++List.replicate (els.length-q) zc).flatten=els.flatten.take (q * te.size)++(List.replicate (els.length-q) zc).flatten++els.flatten.drop (q * te.size+((List.replicate (els.length-q) zc).flatten).length):=by
   have hkz:∀ e ∈ List.replicate (els.length-q) zc,e.length=te.size:=fun e he=>by rw [List.eq_of_mem_replicate he,hzl]
   have e1:(els.take q).flatten=els.flatten.take (q * te.size):=by
    conv=>rhs;rw [<- List.take_append_drop q els,List.flatten_append]
    have:(els.take q).flatten.length=q * te.size:=by
     rw [Zan _ (fun e he=>h1e e (List.mem_of_mem_take he)),List.length_take]
     congr 1
     omega
    rw [<- this,List.take_left]
   rw [List.flatten_append,e1,Zan _ hkz,List.length_replicate,hsum,<- Zan els h1e,List.drop_length,List.append_nil]
  have hpp':=hpp
  rw [hflat] at hpp'
  have hkz:∀ e ∈ List.replicate (els.length-q) zc,e.length=te.size:=fun e he=>by rw [List.eq_of_mem_replicate he,hzl]
  have hrl:(List.replicate (els.length-q) zc).flatten.length=zs.length:=by rw [Zan _ hkz,List.length_replicate,hzsl]
  rcases written (by rw [Zan els h1e,hvl]) hrl (by rw [Zan els h1e,hrl,hzsl];omega) hpp' hvv' with ⟨e1,e2⟩ | ⟨j,e1,e2⟩
  exact (h4e m' p v' e1 e2).step k2
  exact (hreps j p v' e1 e2).step k2
  rw [hlen2]
  exact (h5e b' hb').2 o' hFF
  have e0:els.take q++List.replicate (els.length-q) zc=els:=by
   rw [show els.length-q=0 by omega,List.replicate_zero,List.append_nil,List.take_of_length_le (by omega)]
  rw [e0]
  refine ZQ (v:=.tuple #[]) (W':=x.W) ?_ ⟨x,rfl,?_⟩
  unfold execOp
  rw [ho]
  rw [show els.length-q=0 by omega] at hv
  cases A'<;>simp [resolve,invoke,builtin,Builtin.clear_,hv,run_underlying h1]
  exact hX.change (Step.refl x) hd rfl rfl rfl (Nat.le_refl _) (fun _ _ _=>rfl) (fun _ _ h=>.inl h) hX.flt (fun g' hg'=>(hX.gens g' hg').imp id fun ⟨e1,e2⟩=>⟨e1,.inl e2⟩) hg hO' (fun b' hb'=>.inr ⟨g,_,hob',hb'⟩) htup}
end
section
variable {P:Program} [WInv P] {ops:Array Oper} {o:Oper} {i:Nat} {s:FS} {T:TypeId} {e e' w:Operand} {E E' a1 a2 t k q n:Nat} {a3:List PV} {te:TI} {g:Gen} {sh:Bool} {els:List (List PV)}
theorem Zvo (hw:Zf ops s o=some true) (ho:o.op = .slice T e (some w) none none) (ht:tyI P T=some ⟨.slice E,a1,a2,a3⟩) (hte:tyI P E=some te) (he:ev s e = .row t g) (hob:ZX s.ob t g=some (.row E' k sh els)) (hn:toNat? (ev s w)=some n) (hnl:n<=els.length) (hk:k=te.size) :
  OpR P ops i o s ⟨.suf t g n k,[]⟩:=.any hw fun s' r hA hI=>by
 have hm:e ∈ o.op.operands:=by rw [ho];simp [Op.operands]
 have hm':w ∈ o.op.operands:=by rw [ho];simp [Op.operands]
 exact Zww ho ht hte (by rw [<- hA.ev e hm];exact he) (by rw [Zbo hA hm (by rw [ho];rfl) (by rw [ho];rfl) (by rw [he];simp [ZaG])];exact hob) (by rw [<- hA.ev w hm'];exact hn) hnl hk
theorem ZtC (hw:Zf ops s o=some true) (ho:o.op = .call { callee:=.builtin .len,args:=#[e],argTypes:=#[T] }) (ht:tyI P T=some ⟨.slice E,a1,a2,a3⟩) (he:ev s e = .suf t g n k) (hob:ZX s.ob t g=some (.row E' k sh els)):OpR P ops i o s ⟨.int .i64 ((els.length-n:Nat):Int),[]⟩:=.any hw fun s' r hA hI=>by
 have hm:e ∈ o.op.operands:=by rw [ho];simp [Op.operands,Call.operands]
 exact Zvn ho ht (by rw [<- hA.ev e hm];exact he) (by rw [Zbo hA hm (by rw [ho];rfl) (by rw [ho];rfl) (by rw [he];simp [ZaG])];exact hob)
theorem ZpK (hw:Zf ops s o=some true) (ho:o.op = .indexAddr T e e') (ht:tyI P T=some ⟨.slice E,a1,a2,a3⟩) (hte:tyI P E=some te) (he:ev s e = .suf t g q k) (hn:toNat? (ev s e')=some n) (hob:ZX s.ob t g=some (.row E' k sh els)) (hnl:q+n<els.length) (hk:k=te.size) :
  OpR P ops i o s ⟨.elp t g (q+n) k 0,[]⟩:=.any hw fun s' r hA hI=>by
 have hm:e ∈ o.op.operands:=by rw [ho];simp [Op.operands]
 have hm':e' ∈ o.op.operands:=by rw [ho];simp [Op.operands]
 exact ZrR ho ht hte (by rw [<- hA.ev e hm];exact he) (by rw [<- hA.ev e' hm'];exact hn) (by rw [Zbo hA hm (by rw [ho];rfl) (by rw [ho];rfl) (by rw [he];simp [ZaG])];exact hob) hnl hk
theorem ZpL {w:Operand} (hw:Zf ops s o=some true) (ho:o.op = .slice T e none (some w) none) (ht:tyI P T=some ⟨.slice E,a1,a2,a3⟩) (hte:tyI P E=some te) (he:ev s e = .row t g) (hob:ZX s.ob t g=some (.row E' k false els)) (hn:toNat? (ev s w)=some n) (hnl:n<=els.length) :
  OpR P ops i o s ⟨.row t (s.ng,i),[(t,some ((s.ng,i),.row E' k false (els.take n)))]⟩:=.any hw fun s' r hA hI=>by
 have hm:e ∈ o.op.operands:=by rw [ho];simp [Op.operands]
 have hm':w ∈ o.op.operands:=by rw [ho];simp [Op.operands]
 rw [hA.ng]
 exact ZrS ho ht hte (by rw [<- hA.ev e hm];exact he) (by rw [Zbo hA hm (by rw [ho];rfl) (by rw [ho];rfl) (by rw [he];simp [ZaG])];exact hob) (by rw [<- hA.ev w hm'];exact hn) hnl
theorem ZpM {zc:List PV} (hw:Zf ops s o=some true) (ho:o.op = .call { callee:=.builtin .clear,args:=#[e],argTypes:=#[T] }) (ht:tyI P T=some ⟨.slice E,a1,a2,a3⟩) (hte:tyI P E=some te) (he:ev s e = .suf t g q k) (hob:ZX s.ob t g=some (.row E' k false els)) (hk:k=te.size)
  (hz:te.zero.map dn=zc) (hp:∀ p ∈ zc,p.pure=true) (hlen:te.zero.length=te.size) (hpos:0<te.size):OpR P ops i o s ⟨.tup [],[(t,some (g,.row E' k false (els.take q++List.replicate (els.length-q) zc)))]⟩:=.any hw fun s' r hA hI=>by
 have hm:e ∈ o.op.operands:=by rw [ho];simp [Op.operands,Call.operands]
 exact ZrT ho ht hte (by rw [<- hA.ev e hm];exact he) (by rw [Zbo hA hm (by rw [ho];rfl) (by rw [ho];rfl) (by rw [he];simp [ZaG])];exact hob) hk hz hp hlen hpos
end
section
variable {P:Program} [WInv P] {ops:Array Oper} {draw:Bool} {i:Nat} {L:List Oper} {acc:List (List Nat×List Nat)} {K:FS->Prop} {tm:List (Nat×PV)} {ob:List (Nat×Option (Gen×VObj))} {ng:Nat}
 {d:Option Tmp} {ty:TypeId} {pos:String} {after:Array Edge} {gd:Option (Nat×Bool)} {T:TypeId} {x y:Operand} {E kk by_:Nat} {z:List PV} {t:Nat} {g:Gen} {els:List (List PV)}
theorem Zwx {w:Operand} {kd:IntKind} {n:Nat} {E':Nat} {sh:Bool} [Sl P T E kk by_ z] (hw:Zf ops (mkS tm ob ng) ⟨d,.slice T x (some w) none none,ty,pos,after,gd⟩=some true) (hx:evL tm x = .row t g) (hb:ZX (Zm ob) t g=some (.row E' kk sh els)) (hy:evL tm w = .int kd (n:Int)) (hn:n<=els.length)
  (k:GoL P ops draw (i+1) L (acc ++ [(ZA (mkS tm ob ng) ⟨d,.slice T x (some w) none none,ty,pos,after,gd⟩,[])]) (mkS (ZaW d (.suf t g n kk) tm) ob ng) K):GoL P ops draw i (⟨d,.slice T x (some w) none none,ty,pos,after,gd⟩::L) acc (mkS tm ob ng) K:=by{
obtain ⟨s,b,zz,te,q1,q2,q3,_,_,_,_⟩:=ZbJ (P:=P) (T:=T) (E:=E) (k:=kk) (by_:=by_) (z:=z)
refine Zc1 (Zvo hw rfl q1 q2 (by rw [ZR];exact hx) hb (by rw [ZR,hy];exact Zcn) hn q3.symm) ?_
rw [ZaS]
exact k}
theorem Zwy {n k':Nat} {E':Nat} {sh:Bool} [Sl P T E kk by_ z] (hw:Zf ops (mkS tm ob ng) ⟨d,.call ⟨.builtin .len,#[x],#[T]⟩,ty,pos,after,gd⟩=some true) (hx:evL tm x = .suf t g n k') (hb:ZX (Zm ob) t g=some (.row E' k' sh els)) {v:Int} (hv:((els.length-n:Nat):Int)=v)
  (k:GoL P ops draw (i+1) L (acc ++ [(ZA (mkS tm ob ng) ⟨d,.call ⟨.builtin .len,#[x],#[T]⟩,ty,pos,after,gd⟩,[])]) (mkS (ZaW d (.int .i64 v) tm) ob ng) K):GoL P ops draw i (⟨d,.call ⟨.builtin .len,#[x],#[T]⟩,ty,pos,after,gd⟩::L) acc (mkS tm ob ng) K:=by{
obtain ⟨s,b,zz,te,q1,q2,q3,_,_,_,_⟩:=ZbJ (P:=P) (T:=T) (E:=E) (k:=kk) (by_:=by_) (z:=z)
subst hv
refine Zc1 (ZtC hw rfl q1 (by rw [ZR];exact hx) hb) ?_
rw [ZaS]
exact k}
theorem ZtD {E':Nat} {sh:Bool} {kd:IntKind} {q n m:Nat} [Sl P T E kk by_ z] (hw:Zf ops (mkS tm ob ng) ⟨d,.indexAddr T x y,ty,pos,after,gd⟩=some true) (hx:evL tm x = .suf t g q kk) (hb:ZX (Zm ob) t g=some (.row E' kk sh els)) (hy:evL tm y = .int kd (n:Int)) (hm:q+n=m) (hn:m<els.length)
  (k:GoL P ops draw (i+1) L (acc ++ [(ZA (mkS tm ob ng) ⟨d,.indexAddr T x y,ty,pos,after,gd⟩,[])]) (mkS (ZaW d (.elp t g m kk 0) tm) ob ng) K):GoL P ops draw i (⟨d,.indexAddr T x y,ty,pos,after,gd⟩::L) acc (mkS tm ob ng) K:=by{
obtain ⟨s,b,zz,te,q1,q2,q3,_,_,_,_⟩:=ZbJ (P:=P) (T:=T) (E:=E) (k:=kk) (by_:=by_) (z:=z)
subst hm
refine Zc1 (ZpK hw rfl q1 q2 (by rw [ZR];exact hx) (by rw [ZR,hy];exact Zcn) hb hn q3.symm) ?_
rw [ZaS]
exact k}
theorem ZtE {w:Operand} {E':Nat} {kd:IntKind} {n:Nat} {els':List (List PV)} [Sl P T E kk by_ z] (hw:Zf ops (mkS tm ob ng) ⟨d,.slice T x none (some w) none,ty,pos,after,gd⟩=some true) (hx:evL tm x = .row t g) (hb:ZX (Zm ob) t g=some (.row E' kk false els)) (hy:evL tm w = .int kd (n:Int)) (hn:n<=els.length) (hs:els.take n=els')
  (k:GoL P ops draw (i+1) L (acc ++ [(ZA (mkS tm ob ng) ⟨d,.slice T x none (some w) none,ty,pos,after,gd⟩,[t])]) (mkS (ZaW d (.row t (ng,i)) tm) ((t,some ((ng,i),.row E' kk false els'))::ob) ng) K):GoL P ops draw i (⟨d,.slice T x none (some w) none,ty,pos,after,gd⟩::L) acc (mkS tm ob ng) K:=by{
obtain ⟨s,b,zz,te,q1,q2,q3,_,_,_,_⟩:=ZbJ (P:=P) (T:=T) (E:=E) (k:=kk) (by_:=by_) (z:=z)
subst hs
refine Zc1 (ZpL hw rfl q1 q2 (by rw [ZR];exact hx) hb (by rw [ZR,hy];exact Zcn) hn) ?_
rw [ZaS]
exact k}
theorem ZtF {q:Nat} {E':Nat} {zc:List PV} [Sl P T E kk by_ z] (hw:Zf ops (mkS tm ob ng) ⟨d,.call ⟨.builtin .clear,#[x],#[T]⟩,ty,pos,after,gd⟩=some true) (hx:evL tm x = .suf t g q kk) (hb:ZX (Zm ob) t g=some (.row E' kk false els)) (hz:z.map dn=zc) (hp:zc.all PV.pure=true) {els':List (List PV)} (hs:els.take q++List.replicate (els.length-q) zc=els')
  (k:GoL P ops draw (i+1) L (acc ++ [(ZA (mkS tm ob ng) ⟨d,.call ⟨.builtin .clear,#[x],#[T]⟩,ty,pos,after,gd⟩,[t])]) (mkS (ZaW d (.tup []) tm) ((t,some (g,.row E' kk false els'))::ob) ng) K):GoL P ops draw i (⟨d,.call ⟨.builtin .clear,#[x],#[T]⟩,ty,pos,after,gd⟩::L) acc (mkS tm ob ng) K:=by{
obtain ⟨s,b,zz,te,q1,q2,q3,q4,q5,q6,q7⟩:=ZbJ (P:=P) (T:=T) (E:=E) (k:=kk) (by_:=by_) (z:=z)
subst hs
refine Zc1 (ZpM hw rfl q1 q2 (by rw [ZR];exact hx) hb q3.symm (by rw [q5];exact hz) (fun p hpp=>List.all_eq_true.1 hp p hpp) (by rw [q5,q7,q3]) (by rw [q3];exact q6)) ?_
rw [ZaS]
exact k}
end
end VL
end Go.Proofs.YtpffimahajgiaaaGreatDoor
namespace Go.Proofs.YtpffimahajgiaaaGreatDoor
namespace VL
open Go.RowKit
structure PostS (x y:Ctx) (E k:Nat) (els':List (List PV)) (v:Value):Prop where
 step:Step x y
 gr:Gr (Dr x) x.W y.W
 fnew:∀ b o,y.F b o->x.F b o\/x.W.heap.size<=b\/Dr x b
 flt:∀ b o,y.F b o->b<y.W.heap.size
 ob:∃ g,y.ρ g=v/\ObRep y x.W.heap.size (Dr x) g (.row E k false els')
structure ContractS (P:Program) [WInv P] (f:FuncId) (args:List PV) (E k:Nat) (els els':List (List PV)):Prop where
 isGo:VL.isGo P f=true
 calls:∀ (x:Ctx) (vs:Array Value),PreR x args E k els vs->(∀ W',Gr (Dr x) x.W W'->WInv.I P W')->Calls P f vs x.W fun e W'=>∃ y v,y.W=W'/\e = .returned v/\PostS x y E k els' v
section
variable {P:Program} {r:Run} {S:Nat->Prop} {s:FS} {a:Act} {x:Ctx}
theorem RstX.changeF (h:RstX r S s a x) {S':Nat->Prop} {y:Ctx} (k:Step x y) {d:Option Tmp} {v:Value} {val:PV} (hd:∀ k,d=some k->k<r.N) {t:Nat} {g':Gen} {o:VObj}
  (os:y.W.os=x.W.os) (tape:y.W.tape=x.W.tape) (out:y.W.output=x.W.output) (size:x.W.heap.size<=y.W.heap.size)
  (hblock:∀ b,b<x.W.heap.size->(∀ g o,s.ob t=some (g,o)->blk (x.ρ g)≠some b)->y.W.heap[b]? = x.W.heap[b]?)
  (hF:∀ b o,y.F b o->x.F b o\/x.W.heap.size<=b\/∃ g o',s.ob t=some (g,o')/\blk (x.ρ g)=some b) (hflt:∀ b o,y.F b o->b<y.W.heap.size) (gens:∀ g,y.G g->g.1<s.ng\/(g.1=s.ng/\S' g.2)) (hG:y.G g') (hob:ObRep y r.W0.heap.size r.D g' o)
  (hfresh:∀ b,blk (y.ρ g')=some b->x.W.heap.size<=b\/∃ g o,s.ob t=some (g,o)/\blk (x.ρ g)=some b) (hval:Rep y val v) :
  RstX r S' (s.app d ⟨val,[(t,some (g',o))]⟩) (a.put d v) y:=by{
have far:∀ t' g2 o2 b,t'≠t->s.ob t'=some (g2,o2)->blk (x.ρ g2)=some b->b<x.W.heap.size/\∀ g o,s.ob t=some (g,o)->blk (x.ρ g)≠some b:=fun t' g2 o2 b ht h2 hb=>
 ⟨((h.ob t' g2 o2 h2).2.lt b hb).1,fun g o ho=>h.apart t' t g2 g o2 o b ht h2 ho hb⟩
have hobs:∀ t',(s.app d ⟨val,[(t,some (g',o))]⟩).ob t'=if t'=t then some (g',o) else s.ob t':=fun t'=>rfl
have hnew:∀ t' g2 o2 b,t'≠t->s.ob t'=some (g2,o2)->blk (x.ρ g2)=some b->blk (y.ρ g')≠some b:=fun t' g2 o2 b ht h2 hb e=>by
 obtain ⟨h3,h4⟩:=far t' g2 o2 b ht h2 hb
 rcases hfresh b e with h5 | ⟨g,o,h5,h6⟩
 omega
 exact h4 g o h5 h6
refine ⟨by rw [Zeu];exact h.defers,by rw [Zht];exact h.size,?_,gens,fun t'=>?_,fun t' g2 o2 h2=>?_,fun t1 t2 g1 g2 o1 o2 b hne h1 h2 hb=>?_,
 hflt,fun b o hb=>k.F b o (h.f0 b o hb),fun b o hb=>?_,fun g hg=>⟨(k.G g (h.rho g hg).1).1,(k.G g (h.rho g hg).1).2.trans (h.rho g hg).2⟩,h.inv,fun b o v hF hv=>k.W b o v (h.f0 b o hF) (h.keep b o v hF hv)⟩
refine h.gr.trans' os tape out size fun b hb hD=>hblock b (Nat.lt_of_lt_of_le hb h.gr.size) fun g o ho e=>?_
rcases ((h.ob t g o ho).2.lt b e).2 with h3 | h3
omega
exact hD h3
rw [Zi0 h.size hd]
cases d with
| none=>exact (h.tm t').step k
| some q=>
  show Rep y (if t'=q then val else s.tm t') (if t'=q then v else a.tmps.getD t' undef)
  split
  exact hval
  exact (h.tm t').step k
rw [hobs] at h2
split at h2
injection h2 with h2
injection h2 with e1 e2
subst e1 e2
exact ⟨hG,hob⟩
rename_i hne
obtain ⟨h3,h4⟩:=h.ob t' g2 o2 h2
exact ⟨(k.G g2 h3).1,h4.step h3 k fun b hb=>⟨hblock b (far t' g2 o2 b hne h2 hb).1 (far t' g2 o2 b hne h2 hb).2,fun o ho=>by
 rcases hF b o ho with h5 | h5 | ⟨g5,o5,h5,h6⟩
 exact h5
 have:=(far t' g2 o2 b hne h2 hb).1;omega
 exact absurd h6 ((far t' g2 o2 b hne h2 hb).2 g5 o5 h5)⟩⟩
rw [hobs] at h1 h2
split at h1<;>split at h2
rename_i e1 e2;exact absurd (e1.trans e2.symm) hne
rename_i e1 e2
injection h1 with h1
injection h1 with e3 e4
subst e3 e4
rw [(k.G g2 (h.ob t2 g2 o2 h2).1).2]
exact fun e=>hnew t2 g2 o2 b e2 h2 e hb
rename_i e1 e2
injection h2 with h2
injection h2 with e3 e4
subst e3 e4
rw [(k.G g1 (h.ob t1 g1 o1 h1).1).2] at hb
exact hnew t1 g1 o1 b e1 h1 hb
rw [(k.G g1 (h.ob t1 g1 o1 h1).1).2] at hb
rw [(k.G g2 (h.ob t2 g2 o2 h2).1).2]
exact h.apart t1 t2 g1 g2 o1 o2 b hne h1 h2 hb
rcases hF b o hb with h3 | h3 | ⟨g5,o5,h5,h6⟩
exact h.fnew b o h3
exact .inr (.inl (Nat.le_trans h.gr.size h3))
exact .inr ((h.ob t g5 o5 h5).2.lt b h6).2}
end
theorem Zqn {x:Ctx} {B:Nat} {D:Nat->Prop} {g:Gen} {E k:Nat} {sh:Bool} {els:List (List PV)} (h:ObRep x B D g (.row E k sh els)):∃ A n c,x.ρ g = .slice A n c:=by{
obtain ⟨_,_,vs,h3,_⟩:=h
rcases h3.2 with ⟨hn,_⟩ | ⟨b,cap,cur,hv,_⟩
exact ⟨_,_,_,hn⟩
exact ⟨_,_,_,hv⟩}
section
variable {P:Program} [WInv P] {r:Run} {ops:Array Oper} {o:Oper} {i:Nat} {s s':FS}
theorem ZsF {f:FuncId} {es:Array Operand} {ts:Array TypeId} {post:List PV} {t:Nat} {g:Gen} {E k:Nat} {els els':List (List PV)} (ho:o.op = .call { callee:=.value (.func f),args:=es,argTypes:=ts })
  (he:es.toList.map (ev s) = .row t g::post) (hob:s.ob t=some (g,.row E k false els)) (hp:post.all PV.dryF=true) (hc:ContractS P f post E k els els') (hI:r.I=WInv.I P):OpOK P r o i s ⟨.row t (s.ng,i),[(t,some ((s.ng,i),.row E k false els'))]⟩:=by{
intro S a x Q hX hi hd
have hrep:∀ (j:Nat) (p:PV),(PV.row t g::post)[j]? = some p->Rep x p ((es.map a.eval).getD j undef):=fun j p hp=>by
 rw [<- he,List.getElem?_map] at hp
 cases he:es.toList[j]? with
 | none=>rw [he] at hp;simp at hp
 | some e=>
   rw [he] at hp
   simp only [Option.map_some,Option.some.injEq] at hp
   subst hp
   have hea:es[j]? = some e:=by simpa using he
   have:(es.map a.eval).getD j undef=a.eval e:=by simp [hea]
   rw [this]
   exact ZV hX e
obtain ⟨hG,hO⟩:=hX.ob t g _ hob
have hlt:=fun b hb=>hO.lt b hb
obtain ⟨q1,q2,vs2,q3,q4,q5⟩:=hO
let z:Ctx:=⟨fun g'=>g'=(0,0),x.F,x.W,fun _=>x.ρ g⟩
have hpre:PreR z post E k els (es.map a.eval):=by
 refine ⟨?_,fun j p v hj hv=>?_,⟨rfl,q1,q2,vs2,q3,fun m p v hm hv=>?_,fun b hb=>⟨.inr hb,(q5 b hb).2⟩⟩,fun g' e=>?_,hX.flt⟩
 have:=congrArg List.length he
 simp at this
 simp [this]
 cases j with
 | zero=>
   simp only [List.getElem?_cons_zero,Option.some.injEq] at hj
   subst hj
   have:=hrep 0 (.row t g) rfl
   rw [Array.getD_eq_getD_getElem?,hv] at this
   simp only [Option.getD_some] at this
   cases this with
   | row _ _ A n c _ hvv=>exact .row _ _ A n c rfl hvv
 | succ j=>
   have hj':post[j]? = some p:=by simpa using hj
   have:=hrep (j+1) p hj
   rw [Array.getD_eq_getD_getElem?,hv] at this
   exact Rep.dryF this (List.all_eq_true.1 hp p (List.mem_of_getElem? hj'))
 obtain ⟨e,he,hpe⟩:=List.mem_flatten.1 (List.mem_of_getElem? hm)
 exact (q4 m p v hm hv).pure_mono (q2 e he p hpe) (fun _ _ h=>h) (fun _ _ _ _ h=>h)
 rw [show g'=(0,0) from e]
have hbig:r.W0.heap.size<=x.W.heap.size:=hX.gr.size
have hcalls:=hc.calls z _ hpre fun W' hW=>by
 rw [<- hI]
 exact hX.inv.1 W' (hX.gr.trans' hW.os hW.tape hW.output hW.size fun b hb hD=>hW.block b (Nat.lt_of_lt_of_le hb hbig) fun e=>by
  rcases (hlt b e).2 with h | h
  omega
  exact hD h)
unfold Oper.wp
rw [Zej ho hc.isGo,Oper.upon_enter]
refine hcalls.mono ?_
rintro e' W' ⟨y,v,rfl,rfl,hpost⟩
obtain ⟨g0,hv0,hob0⟩:=hpost.ob
obtain ⟨A,n,c,hsl⟩:=Zqn hob0
obtain ⟨w1,w2,vs3,w3,w4,w5⟩:=hob0
rw [hv0] at w3 w5 hsl
have hnew:¬ x.G (s.ng,i):=fun hg=>by
 rcases hX.gens _ hg with e | ⟨_,e⟩
 exact absurd e (Nat.lt_irrefl _)
 exact hi e
let y':Ctx:=⟨fun g=>x.G g\/g=(s.ng,i),y.F,y.W,fun g=>if g=(s.ng,i) then v else x.ρ g⟩
have hρ:y'.ρ (s.ng,i)=v:=if_pos rfl
have k2:Step x y':=⟨fun g hg=>⟨.inl hg,if_neg (fun (e:g=(s.ng,i))=>hnew (by rw [<- e];exact hg))⟩,fun b o h=>hpost.step.F b o h,fun b o w hF hw=>hpost.step.W b o w hF hw⟩
refine ⟨y',rfl,hX.changeF k2 hd hpost.gr.os hpost.gr.tape hpost.gr.output hpost.gr.size (fun b hb hne=>hpost.gr.block b hb fun e=>hne g _ hob e) (fun b o h=>?_) hpost.flt
 (fun g' hg'=>?_) (.inr rfl) ⟨w1,w2,vs3,?_,fun m p v hm hv=>?_,fun b hb=>?_⟩ (fun b hb=>?_) ?_⟩
rcases hpost.fnew b o h with h1 | h1 | h1
exact .inl h1
exact .inr (.inl h1)
exact .inr (.inr ⟨g,_,hob,h1⟩)
rcases hg' with hg' | rfl
exact (hX.gens g' hg').imp id fun ⟨e1,e2⟩=>⟨e1,.inl e2⟩
exact .inr ⟨rfl,.inr rfl⟩
rw [hρ]
exact w3
obtain ⟨e,he,hpe⟩:=List.mem_flatten.1 (List.mem_of_getElem? hm)
exact (w4 m p v hm hv).pure_mono (w2 e he p hpe) (fun _ _ h=>h) (fun _ _ _ _ h=>h)
rw [hρ] at hb
refine ⟨?_,(w5 b hb).2⟩
rcases (w5 b hb).1 with h | h
exact .inl (Nat.le_trans hbig h)
exact (hlt b h).2
rw [hρ] at hb
rcases (w5 b hb).1 with h | h
exact .inl h
exact .inr ⟨g,_,hob,h⟩
rw [hsl]
exact .row _ _ A n c (show x.G (s.ng,i)\/(s.ng,i)=(s.ng,i) from .inr rfl) (hρ.trans hsl)}
theorem Zqo {f:FuncId} {es:Array Operand} {ts:Array TypeId} {post:List PV} {t:Nat} {g:Gen} {E k:Nat} {els els':List (List PV)} (hw:Zf ops s o=some true) (ho:o.op = .call { callee:=.value (.func f),args:=es,argTypes:=ts })
  (he:es.toList.map (ev s) = .row t g::post) (hob:s.ob t=some (g,.row E k false els)) (hp:post.all PV.dryF=true) (hc:ContractS P f post E k els els'):OpR P ops i o s ⟨.row t (s.ng,i),[(t,some ((s.ng,i),.row E k false els'))]⟩:=.any hw fun s' r hA hI=>by
 rw [hA.ng]
 obtain ⟨e1,e2,_⟩:=Zd5 ho hA
 refine ZsF ho (by rw [e1,he]) ?_ hp hc hI
 rw [<- e2 (.row t g) (by rw [he];simp) t (by simp [Zjl,Zee,Zc5,ZaG])]
 exact hob
end
section
variable {P:Program} [WInv P] {ops:Array Oper} {draw:Bool} {i:Nat} {L:List Oper} {acc:List (List Nat×List Nat)} {K:FS->Prop} {tm:List (Nat×PV)} {ob:List (Nat×Option (Gen×VObj))} {ng:Nat}
 {d:Option Tmp} {ty:TypeId} {pos:String} {after:Array Edge} {gd:Option (Nat×Bool)}
theorem Zqp {f:FuncId} {es:Array Operand} {ts:Array TypeId} {post:List PV} {t:Nat} {g:Gen} {E k:Nat} {els els':List (List PV)} (hc:ContractS P f post E k els els') (hw:Zf ops (mkS tm ob ng) ⟨d,.call ⟨.value (.func f),es,ts⟩,ty,pos,after,gd⟩=some true)
  (he:es.toList.map (evL tm) = .row t g::post) (hob:Zm ob t=some (g,.row E k false els)) (hp:post.all PV.dryF=true)
  (kk:GoL P ops draw (i+1) L (acc ++ [(ZA (mkS tm ob ng) ⟨d,.call ⟨.value (.func f),es,ts⟩,ty,pos,after,gd⟩,[t])]) (mkS (ZaW d (.row t (ng,i)) tm) ((t,some ((ng,i),.row E k false els'))::ob) ng) K) :
  GoL P ops draw i (⟨d,.call ⟨.value (.func f),es,ts⟩,ty,pos,after,gd⟩::L) acc (mkS tm ob ng) K:=by
 refine Zc1 (Zqo hw rfl (by rw [ZR];exact he) hob hp hc) ?_
 rw [ZaS]
 exact kk
end
def ZuH (P:Program) (rs:List ResultVar) (E k:Nat) (els':List (List PV)):Ex->FS->Prop | .exit _,_=>False | _,s=>∃ g,Zcr P s rs=some [.row 0 g]/\s.ob 0=some (g,.row E k false els')
theorem ZkK {P:Program} {s:FS} {rs:List ResultVar} {E k:Nat} {els':List (List PV)} {g:Gen} (h1:Zcr P s rs=some [.row 0 g]) (h3:s.ob 0=some (g,.row E k false els')):ZuH P rs E k els' .ret s:=⟨g,h1,h3⟩
section
variable {P:Program} [WInv P]
theorem Zis (hmix:P.follows .mixedOrders=true) {f:FuncId} {fn:Func} {c:Code} {args:List PV} {E k:Nat} {els els':List (List PV)} {e:Ex} {s1:FS} {g0:Gen}
  (hg:isGo P f=true) (hf:P.funcs[f]? = some fn) (hb:fn.body=some c) (hn:args.length+1<=fn.ntmps) (hok:ZaU fn.ntmps c=true) (hrun:RunC P c (ZnQ args E k els) e s1) (he:e = .normal\/e = .ret)
  (hres:Zcr P s1 fn.results.toList=some [.row 0 g0]) (hob:s1.ob 0=some (g0,.row E k false els')):ContractS P f args E k els els':=by{
refine ⟨hg,fun x vs hpre hinv=>?_⟩
let r:Run:=⟨x.W,Dr x,(vs++Array.replicate (fn.ntmps-vs.size) undef).size,x.F,x.G,x.ρ,WInv.I P⟩
have hNr:r.N=fn.ntmps:=by
 have:=hpre.size
 simp [r]
 omega
have hX:RstX r (fun _=>False) (ZnQ args E k els) { tmps:=vs++Array.replicate (fn.ntmps-vs.size) undef,defers:=[] } x:=by
 refine ⟨rfl,rfl,Gr.refl _ _,fun g hg=>?_,fun t=>?_,fun t g o ho=>?_,fun t t' g g' o o' b hne h1 h2 hb1 hb2=>?_,hpre.flt,fun _ _ h=>h,fun _ _ h=>.inl h,fun _ h=>⟨h,rfl⟩,⟨hinv,hpre.gen⟩,fun _ _ _ _ h=>h⟩
 rw [hpre.gen g hg]
 exact .inl Nat.zero_lt_one
 show Rep x ((PV.row 0 (0,0)::args).getD t (.tup [])) _
 rw [Array.getD_eq_getD_getElem?,Array.getElem?_append,List.getD_eq_getElem?_getD]
 by_cases ht:t<vs.size
 have hl:t<(PV.row 0 (0,0)::args).length:=by
  rw [List.length_cons,hpre.size]
  exact ht
 rw [if_pos ht,List.getElem?_eq_getElem hl,Array.getElem?_eq_getElem ht]
 exact hpre.rep t _ _ (List.getElem?_eq_getElem hl) (Array.getElem?_eq_getElem ht)
 rw [if_neg ht,List.getElem?_eq_none (by rw [List.length_cons,hpre.size];omega)]
 have:(Array.replicate (fn.ntmps-vs.size) undef)[t-vs.size]?.getD undef=undef:=by
  rw [Array.getElem?_replicate]
  split<;>rfl
 rw [this]
 exact .tup [] #[] rfl (fun i p v hp=>by simp at hp)
 obtain ⟨rfl,rfl,rfl⟩:=Zgr ho
 exact hpre.ob
 exact absurd ((Zgr h1).1.trans (Zgr h2).1.symm) hne
refine calls_of_wp hf hb ?_
refine (Zd4 hmix hrun).1 r _ x _ ⟨rfl,by rw [hNr];exact hok⟩ hX fun a' y hY=>?_
obtain ⟨ws,h1,h2,h3⟩:=ZbP hY fn.results.toList hres
have hstep:Step x y:=⟨fun g hg=>hY.rho g hg,fun b o hb=>hY.f0 b o hb,fun b o v hb hv=>hY.keep b o v hb hv⟩
have hend:(results fn a'.tmps).run P y.W = .ok (if ws.length=1 then ws.getD 0 undef else .tuple ws.toArray) y.W:=by
 have:(fn.results.mapM (Znp a')).run P y.W = .ok ws.toArray y.W:=by
  rw [Array.mapM_eq_mapM_toList,map_eq_pure_bind,Sem.run_bind,h1]
  rfl
 have e:results fn a'.tmps=(fn.results.mapM (Znp a') >>= fun vs=>pure (if h:vs.size=1 then vs[0] else .tuple vs)):=by
  unfold results
  congr 1
 rw [e,Sem.run_bind,this]
 simp only [Result.andThen_ok,Sem.run_pure]
 congr 1
 by_cases hl:ws.length=1
 simp [hl]
 simp [hl]
have hfin:∃ v,(results fn a'.tmps).run P y.W = .ok v y.W/\(fun e W'=>∃ y v,y.W=W'/\e=Ending.returned v/\PostS x y E k els' v) (Ending.returned v) y.W:=by
 refine ⟨_,hend,y,_,rfl,rfl,hstep,hY.gr,hY.fnew,hY.flt,g0,?_,(hY.ob 0 _ _ hob).2⟩
 rw [if_pos (by simpa using h2)]
 have h5:=h3 0 (.row 0 g0) rfl
 generalize ws.getD 0 undef=u at h5 ⊢
 cases h5 with
 | row _ _ A n c _ hvv=>exact hvv
rcases he with rfl | rfl
exact ⟨hY.defers,hfin⟩
exact ⟨hY.defers,hfin⟩}
theorem Zkn (hmix:P.follows .mixedOrders=true) {f:FuncId} {fn:Func} {c:Code} {args:List PV} {E k:Nat} {els els':List (List PV)} (hf:P.funcs[f]? = some fn) (hg:isGo P f=true) (hb:fn.body=some c) (hok:(decide (args.length+1<=fn.ntmps)&&ZaU fn.ntmps c)=true)
  (h:PWs P [c] (ZuH P fn.results.toList E k els') (mkS (Zdg 0 (.row 0 (0,0)::args)) [(0,some ((0,0),.row E k false els))] 1)):ContractS P f args E k els els':=by{
simp only [Bool.and_eq_true,decide_eq_true_eq] at hok
obtain ⟨e,s',h1,h2⟩:=Zcc h
have hsh:Shift (ZnQ args E k els) (mkS (Zdg 0 (.row 0 (0,0)::args)) [(0,some ((0,0),.row E k false els))] 1):=Zdf (fun t=>by
 rcases ZcE (PV.row 0 (0,0)::args) 0 t with h | ⟨_,h⟩
 exact .inl h
 exact .inr h) (fun t=>.inr rfl) (Nat.le_refl _)
cases e with
| exit id=>exact h2.elim
| normal=>
  obtain ⟨g0,q1,q3⟩:=h2
  exact Zis hmix hg hf hb hok.1 hok.2 (.shift hsh h1) (.inl rfl) q1 q3
| ret=>
  obtain ⟨g0,q1,q3⟩:=h2
  exact Zis hmix hg hf hb hok.1 hok.2 (.shift hsh h1) (.inr rfl) q1 q3}
end
end VL
end Go.Proofs.YtpffimahajgiaaaGreatDoor

namespace Go.Proofs.YtpffimahajgiaaaGreatDoor
namespace VL
section
variable {P:Program} [WInv P] {α β γ:Type} {ops:Array Oper} {draw:Bool} {i:Nat} {L:List Oper} {acc:List (List Nat×List Nat)} {K:FS->Prop} {tm:List (Nat×PV)} {ob:List (Nat×Option (Gen×VObj))} {ng:Nat}
 {d:Option Tmp} {ty T:TypeId} {pos:String} {after:Array Edge} {gd:Option (Nat×Bool)} {x y:Operand} {r:γ} {q:β->Prop}
theorem aC {F:Option β} {G:β->Option γ} {R:β->PV} {f:FuncId} {es:Array Operand} {ts:Array TypeId} {args:List PV} {us:List (Nat×Option (Gen×VObj))} (hF:F.bind G=some r) (hc:∀ v,F=some v->Zg P f args (R v)) (k:∀ v,G v=some r->q v)
  (hw:Zf ops (mkS tm ob ng) ⟨d,.call ⟨.value (.func f),es,ts⟩,ty,pos,after,gd⟩=some true:=by exact rfl) (ha:ZfB (Zm ob) (es.toList.map (evL tm))=some (args,us):=by exact rfl)
  (h:∀ v,q v->GoL P ops draw (i+1) L (acc ++ [(ZA (mkS tm ob ng) ⟨d,.call ⟨.value (.func f),es,ts⟩,ty,pos,after,gd⟩,us.map (·.1))]) (mkS (ZaW d (R v) tm) (us.reverse++ob) ng) K:=by
 (intro v k)
 (refine Zn ?_)
 (exact k)):GoL P ops draw i (⟨d,.call ⟨.value (.func f),es,ts⟩,ty,pos,after,gd⟩::L) acc (mkS tm ob ng) K:=by
 obtain ⟨v,hv,hG⟩:=bnd hF
 exact ZfH (hc v hv) hw ha (h v (k v hG))
theorem aL {F:Option β} {G:β->Option γ} {R:β->PV} {f:FuncId} {es:Array Operand} {ts:Array TypeId} {args:List PV} (hF:F.bind G=some r) (hc:∀ v,F=some v->Zg P f args (R v)) (k:∀ v,G v=some r->q v)
  (hw:Zf ops (mkS tm ob ng) ⟨d,.call ⟨.value (.func f),es,ts⟩,ty,pos,after,gd⟩=some true:=by exact rfl) (ha:Zgx (frz (Zm ob)) (es.toList.map (evL tm))=some args:=by exact rfl) (hp:∀ v,(R v).dry=true:=by exact fun _=>rfl)
  (h:∀ v,q v->GoL P ops draw (i+1) L (acc ++ [(ZA (mkS tm ob ng) ⟨d,.call ⟨.value (.func f),es,ts⟩,ty,pos,after,gd⟩,[])]) (mkS (ZaW d (R v) tm) ob ng) K:=by
 (intro v k)
 (refine Zn ?_)
 (exact k)):GoL P ops draw i (⟨d,.call ⟨.value (.func f),es,ts⟩,ty,pos,after,gd⟩::L) acc (mkS tm ob ng) K:=by
 obtain ⟨v,hv,hG⟩:=bnd hF
 exact ZhG (hc v hv) hw ha (hp v) (h v (k v hG))
theorem aN {dd:Nat} {F:Option β} {G:β->Option γ} {O:β->VObj} {f:FuncId} {es:Array Operand} {ts:Array TypeId} {args:List PV} {us:List (Nat×Option (Gen×VObj))} (hF:F.bind G=some r) (hc:∀ v,F=some v->ContractN P f args (O v)) (k:∀ v,G v=some r->q v)
  (hw:Zf ops (mkS tm ob ng) ⟨some dd,.call ⟨.value (.func f),es,ts⟩,ty,pos,after,gd⟩=some true:=by exact rfl) (ha:ZfB (Zm ob) (es.toList.map (evL tm))=some (args,us):=by exact rfl)
  (h:∀ v,q v->GoL P ops draw (i+1) L (acc ++ [(ZA (mkS tm ob ng) ⟨some dd,.call ⟨.value (.func f),es,ts⟩,ty,pos,after,gd⟩,(us ++ [(dd,some ((ng,i),O v))]).map (·.1))])
   (mkS ((dd,Zhe (O v) dd (ng,i))::tm) ((us ++ [(dd,some ((ng,i),O v))]).reverse++ob) ng) K:=by
 (intro v k)
 (refine Zn ?_)
 (exact k)):GoL P ops draw i (⟨some dd,.call ⟨.value (.func f),es,ts⟩,ty,pos,after,gd⟩::L) acc (mkS tm ob ng) K:=by
 obtain ⟨v,hv,hG⟩:=bnd hF
 exact Zuy (hc v hv) hw ha (h v (k v hG))
theorem aO {F:Option β} {G:β->Option γ} {R:β->PV} {O:β->List PV} {f:FuncId} {es:Array Operand} {ts:Array TypeId} {post post':List PV} {t:Nat} {g:Gen} {cs qs:List PV} {us2 us3:List (Nat×Option (Gen×VObj))} (hF:F.bind G=some r)
  (hc:∀ v,F=some v->Contract P f (.ptr 0 (0,0) 0::post') (some (0,qs)) (R v) (O v)) (k:∀ v,G v=some r->q v) (hw:Zf ops (mkS tm ob ng) ⟨d,.call ⟨.value (.func f),es,ts⟩,ty,pos,after,gd⟩=some true:=by exact rfl)
  (he:es.toList.map (evL tm) = .ptr t g 0::post:=by exact rfl) (hob:ZX (Zm ob) t g=some (.box cs):=by exact rfl) (h2:ZdJ (Zm ob) cs=some (qs,us2):=by exact rfl) (h3:ZfB (Zm ob) post=some (post',us3):=by exact rfl)
  (h:∀ v,q v->GoL P ops draw (i+1) L (acc ++ [(ZA (mkS tm ob ng) ⟨d,.call ⟨.value (.func f),es,ts⟩,ty,pos,after,gd⟩,(us2++us3 ++ [(t,some (g,VObj.box (O v)))]).map (·.1))])
   (mkS (ZaW d (R v) tm) ((us2++us3 ++ [(t,some (g,VObj.box (O v)))]).reverse++ob) ng) K:=by
 (intro v k)
 (refine Zn ?_)
 (exact k)):GoL P ops draw i (⟨d,.call ⟨.value (.func f),es,ts⟩,ty,pos,after,gd⟩::L) acc (mkS tm ob ng) K:=by
 obtain ⟨v,hv,hG⟩:=bnd hF
 exact Zce (hc v hv) hw he hob h2 h3 (h v (k v hG))
theorem aI (f:β->List PV) {M:List β} {n:Int} {G:β->Option γ} {E kk by_:Nat} {z:List PV} [Sl P T E kk by_ z] {kd:IntKind} (hF:(atI M n).bind G=some r) (k:∀ v,G v=some r->q v)
  (hw:Zf ops (mkS tm ob ng) ⟨d,.indexAddr T x y,ty,pos,after,gd⟩=some true:=by exact rfl) (hx:evL tm x = .sl (M.map f):=by exact rfl) (hy:evL tm y = .int kd n:=by exact rfl) (hl:∀ e,(f e).length=kk:=by exact fun _=>rfl)
  (h:∀ e,q e->GoL P ops draw (i+1) L (acc ++ [(ZA (mkS tm ob ng) ⟨d,.indexAddr T x y,ty,pos,after,gd⟩,[])]) (mkS (ZaW d (.cel (f e)) tm) ob ng) K:=by
 (intro v k)
 (refine Zn ?_)
 (exact k)):GoL P ops draw i (⟨d,.indexAddr T x y,ty,pos,after,gd⟩::L) acc (mkS tm ob ng) K:=by
 obtain ⟨v,hv,hG⟩:=bnd hF
 exact ZsO hw hv hx hy (hl v) (h v (k v hG))
theorem aS {a:ByteArray} {n:Int} {G:Int->Option γ} {q:Int->Prop} {kd:IntKind} (hF:(atS a n).bind G=some r) (k:∀ v,G v=some r->q v) [hT:StrT P T]
  (hw:Zf ops (mkS tm ob ng) ⟨d,.index T x y,ty,pos,after,gd⟩=some true:=by exact rfl) (hx:evL tm x = .str a:=by exact rfl) (hy:evL tm y = .int kd n:=by exact rfl)
  (h:∀ c,q c->GoL P ops draw (i+1) L (acc ++ [(ZA (mkS tm ob ng) ⟨d,.index T x y,ty,pos,after,gd⟩,[])]) (mkS (ZaW d (.int .u8 c) tm) ob ng) K:=by
 (intro v k)
 (refine Zn ?_)
 (exact k)):GoL P ops draw i (⟨d,.index T x y,ty,pos,after,gd⟩::L) acc (mkS tm ob ng) K:=by
 obtain ⟨v,hv,hG⟩:=bnd hF
 exact ZqC StrT.eq hw hv hx hy (h v (k v hG))
theorem sS {a:ByteArray} {l m:Int} {G:ByteArray->Option γ} {q:ByteArray->Prop} {lo hi:Option Operand} (hF:(ZfI a l m).bind G=some r) (k:∀ v,G v=some r->q v) [hT:StrT P T]
  (hw:Zf ops (mkS tm ob ng) ⟨d,.slice T x lo hi none,ty,pos,after,gd⟩=some true:=by exact rfl) (hx:evL tm x = .str a:=by exact rfl) (hlo:loI tm lo=some l:=by exact rfl) (hhi:hiI tm a.size hi=some m:=by exact rfl)
  (h:∀ b,q b->GoL P ops draw (i+1) L (acc ++ [(ZA (mkS tm ob ng) ⟨d,.slice T x lo hi none,ty,pos,after,gd⟩,[])]) (mkS (ZaW d (.str b) tm) ob ng) K:=by
 (intro v k)
 (refine Zn ?_)
 (exact k)):GoL P ops draw i (⟨d,.slice T x lo hi none,ty,pos,after,gd⟩::L) acc (mkS tm ob ng) K:=by
 obtain ⟨v,hv,hG⟩:=bnd hF
 exact Zmz StrT.eq hw hv hx hlo hhi (h v (k v hG))
theorem sT {a b:ByteArray} {G:ByteArray->Option γ} {q:ByteArray->Prop} {T':TypeId} (hF:(Zbs a b).bind G=some r) (k:∀ v,G v=some r->q v)
  (hw:Zf ops (mkS tm ob ng) ⟨d,.binOp .add T x y T',ty,pos,after,gd⟩=some true:=by exact rfl) (hx:evL tm x = .str a:=by exact rfl) (hy:evL tm y = .str b:=by exact rfl)
  (h:∀ c,q c->GoL P ops draw (i+1) L (acc ++ [(ZA (mkS tm ob ng) ⟨d,.binOp .add T x y T',ty,pos,after,gd⟩,[])]) (mkS (ZaW d (.str c) tm) ob ng) K:=by
 (intro v k)
 (refine Zn ?_)
 (exact k)):GoL P ops draw i (⟨d,.binOp .add T x y T',ty,pos,after,gd⟩::L) acc (mkS tm ob ng) K:=by
 obtain ⟨v,hv,hG⟩:=bnd hF
 exact Zov hw hv hx hy (h v (k v hG))
theorem pR (f:β->List PV) {dd:Nat} {E kk by_:Nat} {z:List PV} [Sl P T E kk by_ z] {M0 M:List β} {G:List β->Option γ} {q:List β->Prop} {t:Nat} {g:Gen} {sh:Bool} {new:List (List PV)} (hF:(ZeI by_ M0 M).bind G=some r) (k:∀ v,G v=some r->q v)
  (hw:Zf ops (mkS tm ob ng) ⟨some dd,.call ⟨.builtin .append,#[x,y],#[T,T]⟩,ty,pos,after,gd⟩=some true:=by exact rfl) (hf:∀ x,(f x).length=kk:=by exact fun _=>rfl) (hx:evL tm x = .row t g:=by exact rfl) (ho:ZX (Zm ob) t g=some (.row E kk sh (M0.map f)):=by exact rfl) (hy:ZhI (Zm ob) (evL tm y)=some new:=by exact rfl) (hm:new=M.map f:=by exact rfl)
  (h:∀ R,q R->GoL P ops draw (i+1) L (acc ++ [(ZA (mkS tm ob ng) ⟨some dd,.call ⟨.builtin .append,#[x,y],#[T,T]⟩,ty,pos,after,gd⟩,[t])]) (mkS ((dd,.row t (ng,i))::tm) ((t,some ((ng,i),.row E kk sh (R.map f)))::ob) ng) K:=by
 (intro v k)
 (refine Zn ?_)
 (exact k)):GoL P ops draw i (⟨some dd,.call ⟨.builtin .append,#[x,y],#[T,T]⟩,ty,pos,after,gd⟩::L) acc (mkS tm ob ng) K:=by
 obtain ⟨v,hv,hG⟩:=bnd hF
 exact Zv2 hw hv hf hx ho hy hm (h v (k v hG))
theorem sM (f:β->List PV) {E kk by_:Nat} {z:List PV} [Sl P T E kk by_ z] {lo hi:Option Operand} {M:List β} {l m:Int} {G:List β->Option γ} {q:List β->Prop} {us:List (Nat×Option (Gen×VObj))} (hF:(Zkf M l m).bind G=some r) (k:∀ v,G v=some r->q v)
  (hw:Zf ops (mkS tm ob ng) ⟨d,.slice T x lo hi none,ty,pos,after,gd⟩=some true:=by exact rfl) (hf:∀ x,(f x).length=kk:=by exact fun _=>rfl) (hx:ZhI (Zm ob) (evL tm x)=some (M.map f):=by exact rfl) (hlo:loI tm lo=some l:=by exact rfl) (hhi:hiI tm M.length hi=some m:=by exact rfl) (hus:Zr9 (Zm ob) (evL tm x)=us:=by exact rfl)
  (h:∀ R,q R->GoL P ops draw (i+1) L (acc ++ [(ZA (mkS tm ob ng) ⟨d,.slice T x lo hi none,ty,pos,after,gd⟩,us.map (·.1))]) (mkS (ZaW d (.sl (R.map f)) tm) (us.reverse++ob) ng) K:=by
 (intro v k)
 (refine Zn ?_)
 (exact k)):GoL P ops draw i (⟨d,.slice T x lo hi none,ty,pos,after,gd⟩::L) acc (mkS tm ob ng) K:=by
 obtain ⟨v,hv,hG⟩:=bnd hF
 exact ZsP hw hv hf hx hlo hhi hus (h v (k v hG))
theorem lM (f:β->List PV) (M:List β) {E kk by_:Nat} {z:List PV} [Sl P T E kk by_ z] {q:Prop} (k:q)
  (hw:Zf ops (mkS tm ob ng) ⟨d,.call ⟨.builtin .len,#[x],#[T]⟩,ty,pos,after,gd⟩=some true:=by exact rfl) (hx:ZhI (Zm ob) (evL tm x)=some (M.map f):=by exact rfl)
  (h:q->GoL P ops draw (i+1) L (acc ++ [(ZA (mkS tm ob ng) ⟨d,.call ⟨.builtin .len,#[x],#[T]⟩,ty,pos,after,gd⟩,[])]) (mkS (ZaW d (.int .i64 (M.length:Int)) tm) ob ng) K:=by
 (intro k)
 (refine Zn ?_)
 (exact k)):GoL P ops draw i (⟨d,.call ⟨.builtin .len,#[x],#[T]⟩,ty,pos,after,gd⟩::L) acc (mkS tm ob ng) K:=Zv1 hw hx (h k)
theorem bM (f:β->List PV) (M:List β) {dd:Nat} {E kk by_:Nat} {z:List PV} [Sl P T E kk by_ z] {n:Nat} {parts:Array (Nat×Operand)} {q:Prop} {cs qs:List PV} {us:List (Nat×Option (Gen×VObj))} (k:q)
  (hw:Zf ops (mkS tm ob ng) ⟨some dd,.buildSlice T n parts,ty,pos,after,gd⟩=some true:=by exact rfl) (hf:Zdw (fun i=>some (i * kk,kk)) (List.replicate n z).flatten (evs tm parts.toList)=some cs:=by exact rfl) (hr:ZdJ (Zm ob) cs=some (qs,us):=by exact rfl) (hl:qs.length=n * kk:=by exact rfl) (hm:n * kk<=16777216:=by exact (Nat.le_of_ble_eq_true rfl)) (hc:chunks kk n qs=M.map f:=by exact rfl)
  (h:q->GoL P ops draw (i+1) L (acc ++ [(ZA (mkS tm ob ng) ⟨some dd,.buildSlice T n parts,ty,pos,after,gd⟩,us.map (·.1) ++ [dd])]) (mkS ((dd,.row dd (ng,i))::tm) ((dd,some ((ng,i),.row E kk false (M.map f)))::(us.reverse++ob)) ng) K:=by
 (intro k)
 (refine Zn ?_)
 (exact k)):GoL P ops draw i (⟨some dd,.buildSlice T n parts,ty,pos,after,gd⟩::L) acc (mkS tm ob ng) K:=ZbS M hw hf hr hl hm hc (h k)
end
end VL
end Go.Proofs.YtpffimahajgiaaaGreatDoor
namespace Go.Proofs.YtpffimahajgiaaaGreatDoor
namespace VL
open Go.RowKit
def ZpR {α:Type} (l:List α) (q:Int):Option Unit:=if 0<=q/\q<=(l.length:Int) then some () else none
def atQ {α:Type} (l:List α) (q i:Int):Option α:=if 0<=q/\0<=i then atI l (q+i) else none
def Zvz {α:Type} (l:List α) (q:Int):Int:=((l.length-q.toNat:Nat):Int)
def ZuS {α:Type} (l:List α) (q:Int) (z:α):List α:=l.take q.toNat++List.replicate (l.length-q.toNat) z
theorem ZgO {α:Type} {l:List α} {q i:Int} {e:α} (h:atQ l q i=some e):atI l (q+i)=some e:=by{
unfold atQ at h
split at h
exact h
cases h}
section
variable {P:Program} [WInv P] {ops:Array Oper} {draw:Bool} {i:Nat} {L:List Oper} {acc:List (List Nat×List Nat)} {K:FS->Prop} {tm:List (Nat×PV)} {ob:List (Nat×Option (Gen×VObj))} {ng:Nat}
 {d:Option Tmp} {ty:TypeId} {pos:String} {after:Array Edge} {gd:Option (Nat×Bool)} {T:TypeId} {x y:Operand} {E kk by_:Nat} {z:List PV} {t:Nat} {g:Gen} {α:Type} {f:α->List PV}
theorem Zor {w:Operand} {kd:IntKind} {q:Int} {E':Nat} {sh:Bool} {u:Unit} {M:List α} [Sl P T E kk by_ z] (hw:Zf ops (mkS tm ob ng) ⟨d,.slice T x (some w) none none,ty,pos,after,gd⟩=some true) (hs:ZpR M q=some u) (hx:evL tm x = .row t g) (hb:ZX (Zm ob) t g=some (.row E' kk sh (M.map f))) (hy:evL tm w = .int kd q)
  (k:GoL P ops draw (i+1) L (acc ++ [(ZA (mkS tm ob ng) ⟨d,.slice T x (some w) none none,ty,pos,after,gd⟩,[])]) (mkS (ZaW d (.suf t g q.toNat kk) tm) ob ng) K):GoL P ops draw i (⟨d,.slice T x (some w) none none,ty,pos,after,gd⟩::L) acc (mkS tm ob ng) K:=by{
unfold ZpR at hs
split at hs
rename_i hc
exact Zwx (n:=q.toNat) hw hx hb (by rw [hy,Int.toNat_of_nonneg hc.1]) (by rw [List.length_map];omega) k
cases hs}
theorem ZtV {q:Int} {k' E':Nat} {sh:Bool} {M:List α} [Sl P T E kk by_ z] (hw:Zf ops (mkS tm ob ng) ⟨d,.call ⟨.builtin .len,#[x],#[T]⟩,ty,pos,after,gd⟩=some true) (hx:evL tm x = .suf t g q.toNat k') (hb:ZX (Zm ob) t g=some (.row E' k' sh (M.map f)))
  (k:GoL P ops draw (i+1) L (acc ++ [(ZA (mkS tm ob ng) ⟨d,.call ⟨.builtin .len,#[x],#[T]⟩,ty,pos,after,gd⟩,[])]) (mkS (ZaW d (.int .i64 (Zvz M q)) tm) ob ng) K):GoL P ops draw i (⟨d,.call ⟨.builtin .len,#[x],#[T]⟩,ty,pos,after,gd⟩::L) acc (mkS tm ob ng) K:=
 Zwy hw hx hb (by rw [List.length_map];rfl) k
theorem Ze3 {E':Nat} {sh:Bool} {kd:IntKind} {q n:Int} {M:List α} {e:α} [Sl P T E kk by_ z] (hw:Zf ops (mkS tm ob ng) ⟨d,.indexAddr T x y,ty,pos,after,gd⟩=some true) (he:atQ M q n=some e) (hx:evL tm x = .suf t g q.toNat kk) (hb:ZX (Zm ob) t g=some (.row E' kk sh (M.map f))) (hy:evL tm y = .int kd n)
  (k:GoL P ops draw (i+1) L (acc ++ [(ZA (mkS tm ob ng) ⟨d,.indexAddr T x y,ty,pos,after,gd⟩,[])]) (mkS (ZaW d (.elp t g (q+n).toNat kk 0) tm) ob ng) K):GoL P ops draw i (⟨d,.indexAddr T x y,ty,pos,after,gd⟩::L) acc (mkS tm ob ng) K:=by{
have h2:=(ZhY (ZgO he)).2
unfold atQ at he
split at he
rename_i hc
exact ZtD (n:=n.toNat) hw hx hb (by rw [hy,Int.toNat_of_nonneg hc.2]) (by omega) (by rw [List.length_map];exact (List.getElem?_eq_some_iff.1 h2).1) k
cases he}
theorem Zos {q:Int} {E':Nat} {zr:α} {M:List α} [Sl P T E kk by_ z] (hw:Zf ops (mkS tm ob ng) ⟨d,.call ⟨.builtin .clear,#[x],#[T]⟩,ty,pos,after,gd⟩=some true) (hx:evL tm x = .suf t g q.toNat kk) (hb:ZX (Zm ob) t g=some (.row E' kk false (M.map f))) (hz:z.map dn=f zr) (hp:(f zr).all PV.pure=true)
  (k:GoL P ops draw (i+1) L (acc ++ [(ZA (mkS tm ob ng) ⟨d,.call ⟨.builtin .clear,#[x],#[T]⟩,ty,pos,after,gd⟩,[t])]) (mkS (ZaW d (.tup []) tm) ((t,some (g,.row E' kk false ((ZuS M q zr).map f)))::ob) ng) K):GoL P ops draw i (⟨d,.call ⟨.builtin .clear,#[x],#[T]⟩,ty,pos,after,gd⟩::L) acc (mkS tm ob ng) K:=
 ZtF hw hx hb hz hp (by unfold ZuS;rw [List.map_append,List.map_take,List.map_replicate,List.length_map]) k
theorem Zot {w:Operand} {E':Nat} {kd:IntKind} {h:Int} {M R:List α} [Sl P T E kk by_ z] (hw:Zf ops (mkS tm ob ng) ⟨d,.slice T x none (some w) none,ty,pos,after,gd⟩=some true) (hs:Zkf M 0 h=some R) (hx:evL tm x = .row t g) (hb:ZX (Zm ob) t g=some (.row E' kk false (M.map f))) (hy:evL tm w = .int kd h)
  (k:GoL P ops draw (i+1) L (acc ++ [(ZA (mkS tm ob ng) ⟨d,.slice T x none (some w) none,ty,pos,after,gd⟩,[t])]) (mkS (ZaW d (.row t (ng,i)) tm) ((t,some ((ng,i),.row E' kk false (R.map f)))::ob) ng) K):GoL P ops draw i (⟨d,.slice T x none (some w) none,ty,pos,after,gd⟩::L) acc (mkS tm ob ng) K:=by{
obtain ⟨h0,h1,h2,rfl⟩:=Zou hs
refine ZtE (n:=h.toNat) hw hx hb (by rw [hy,Int.toNat_of_nonneg h1]) (by rw [List.length_map];omega) (?_:_=_) k
rw [<- List.map_take]
rfl}
end
theorem Zjz {P:Program} [WInv P] {β:Type} {F:Option β} {O:β->List (List PV)} {f:FuncId} {fn:Func} {c:Code} {args:List PV} {E k:Nat} {els:List (List PV)} {r:β} (hF:F=some r) (hmix:P.follows .mixedOrders=true) (hf:P.funcs[f]? = some fn) (hg:isGo P f=true) (hb:fn.body=some c) (hok:(decide (args.length+1<=fn.ntmps)&&ZaU fn.ntmps c)=true)
  (h:∀ r,F=some r->PWs P [c] (ZuH P fn.results.toList E k (O r)) (mkS (Zdg 0 (.row 0 (0,0)::args)) [(0,some ((0,0),.row E k false els))] 1)):ContractS P f args E k els (O r):=Zkn hmix hf hg hb hok (h r hF)
end VL
end Go.Proofs.YtpffimahajgiaaaGreatDoor
namespace Go.Proofs.YtpffimahajgiaaaGreatDoor
namespace VL
open Go.RowKit
end VL
end Go.Proofs.YtpffimahajgiaaaGreatDoor
