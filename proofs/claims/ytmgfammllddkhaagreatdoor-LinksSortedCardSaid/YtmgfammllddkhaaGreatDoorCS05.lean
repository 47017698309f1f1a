/- Titles: which bytes names may have; which titles are valid. | The reference's small functions on titles: an index, letters without their case, the words ahead of a colon. | The reference's words ahead of a colon. | A slice of strings that the call itself made: reading and storing an element. No program is named. | The reference's Parts: a text divided at each slash. | Plain laws: the reference's Parts and prefixed say what strings.Split and title.prefix say. | The reference's Valid. | Functions of the library and of titles, as the others are written. | strings.ReplaceAll at one byte for one byte. | Short forms of what fx prints. No program is named. -/
import Derived.Test.YtmgfammllddkhaaGreatDoorCS04
import Derived.Test.YtmgfammllddkhaaGreatDoorCS03
import Derived.Lib.IndexEntry
import Derived.Test.YtmgfammllddkhaaGreatDoorCS01
import Derived.Laws.OwnMore
import Derived.Lib.IndexBytes
import Derived.Test.YtmgfammllddkhaaGreatDoorCS02
namespace Go.Proofs.YtmgfammllddkhaaGreatDoor
open Go.RowKit
def ZfH:List UInt8:=[60,62,91,93,123,125,124,35,95]
def Zcf:Int→List UInt8→Bool
 | _,[]=>true
 | p,c::r=>if (c.toNat:Int)<32∨(c.toNat:Int)=127∨0≤Lib.indexByte ZfH c∨((c.toNat:Int)=32∧p=32) then false else Zcf c.toNat r
theorem Ze8 {p:Int} {c:UInt8} {r:List UInt8} (h:(c.toNat:Int)<32∨(c.toNat:Int)=127∨0≤Lib.indexByte ZfH c∨((c.toNat:Int)=32∧p=32)):Zcf p (c::r)=false:=by
 simp only [Zcf,if_pos h]
theorem Zg8 {p:Int} {c:UInt8} {r:List UInt8} (h:¬((c.toNat:Int)<32∨(c.toNat:Int)=127∨0≤Lib.indexByte ZfH c∨((c.toNat:Int)=32∧p=32))):Zcf p (c::r)=Zcf c.toNat r:=by
 simp only [Zcf,if_neg h]
def Zfk (s:ByteArray) (q:Nat):Int:=if h:0<q∧q - 1<s.size then ((s[q - 1]'h.2).toNat:Int) else -1
set_option maxRecDepth 100000 in
set_option maxHeartbeats 1000000 in
theorem Zmc (s:ByteArray) (w:World) (hs:s.size≤9223372036854775807):Calls Tryz.prog 200 #[.string s] w fun e w'=>e = .returned (.bool (Zcf (-1) s.data.toList))∧w=w':=by
 go_enter Tryz.func200,Tryz.ntmps200
 go_wp2
 go_loop [3,4] (fun i _=>∃ q:Nat,q≤s.size∧i = .int .i64 q∧Hid (Zcf (-1) s.data.toList=Zcf (Zfk s q) (s.data.toList.drop q))) (fun i _=>s.size - (intOf i).toNat)
 case atStart=>exact ⟨0,Nat.zero_le _,rfl,rfl⟩
 case round=>
  obtain ⟨q,hq,rfl,hC⟩:=hrel
  by_cases hlt:q<s.size
  ·have HD:Hid (s.data.toList.drop q=s[q]::s.data.toList.drop (q+1)):=List.drop_eq_getElem_cons (by rw [Array.length_toList];exact hlt)
   have HP':Hid (Zfk s (q+1)=((s[q]'hlt).toNat:Int)):=by unfold Zfk;rw [dif_pos ⟨Nat.succ_pos q,hlt⟩];rfl
   by_cases h0:q=0
   ·subst h0
    have HP:Hid (Zfk s 0 = -1):=rfl
    go_wp2_with (go_at_call 165;refine (Tryz.strings_IndexByte _ _ _).mono ?_;rintro e w' ⟨rfl,rfl⟩)
    all_goals (try simp only [beq_iff_eq,beq_eq_false_iff_ne,ne_eq] at *)
    all_goals first
     | (exfalso;omega)
     | (go_ret;refine ⟨Zbj ?_,rfl⟩;rw [hC.out,HD.out];refine (Ze8 ?_).symm;rw [HP.out];unfold ZfH;omega)
     | (go_round;(case rel=>(refine ⟨1,by omega,rfl,?_⟩;rw [hC.out,HD.out,Zg8 (by rw [HP.out];unfold ZfH;omega)];exact congrArg (fun p=>Zcf p (s.data.toList.drop (0+1))) HP'.out.symm));(case measure=>(simp [intOf];omega)))
   ·have HP:Hid (Zfk s q=((s[q - 1]'(by omega)).toNat:Int)):=by unfold Zfk;rw [dif_pos ⟨by omega,by omega⟩];exact Lib.hid rfl
    have h1:0<q:=by omega
    clear h0
    go_wp2_with (go_at_call 165;refine (Tryz.strings_IndexByte _ _ _).mono ?_;rintro e w' ⟨rfl,rfl⟩)
    all_goals (try simp only [beq_iff_eq,beq_eq_false_iff_ne,ne_eq] at *)
    all_goals first
     | (exfalso;omega)
     | (go_ret;refine ⟨Zbj ?_,rfl⟩;rw [hC.out,HD.out];refine (Ze8 ?_).symm;rw [HP.out];unfold ZfH;omega)
     | (go_round;(case rel=>(refine ⟨q+1,by omega,by go_num,?_⟩;rw [hC.out,HD.out,Zg8 (by rw [HP.out];unfold ZfH;omega)];exact congrArg (fun p=>Zcf p (s.data.toList.drop (q+1))) HP'.out.symm));(case measure=>(simp [intOf];omega)))
  ·obtain rfl:q=s.size:=by omega
   have hz:s.data.toList.drop s.size = []:=List.drop_eq_nil_of_le (by rw [Array.length_toList];exact Nat.le_refl _)
   have HZ:Hid (Zcf (-1) s.data.toList=true):=by rw [hC.out,hz];exact rfl
   clear hz hC
   go_wp2
   go_ret
   exact ⟨Zbj HZ.out.symm,rfl⟩
theorem Zmd (s:ByteArray):Lib.countB s ⟨#[47]⟩≤s.size:=by
 have h:=Lib.countB_mul_le ⟨#[47]⟩ (by decide) s.size s (Nat.le_refl _)
 have e:(⟨#[47]⟩:ByteArray).size=1:=rfl
 rw [e] at h
 omega
theorem Zsl:∀ (l:List UInt8) (h:0<l.length),l.headD 0=l[0]
 | _::_,_=>rfl
theorem ZqK (s:ByteArray) (h:0<s.size):s.data.toList.headD 0=s[0]:=
 Zsl _ (by rw [Array.length_toList];exact h)
theorem Zm6 (s:ByteArray) (w:World) (hs:s.size<4294967281) (hG:ZtY w) (h:ZbF s.data.toList=none):Calls Tryz.prog 155 #[.string s] w fun e w'=>e = .returned (.tuple #[.int .i64 0,.string ⟨#[]⟩,.bool false])∧Below w.heap.size w w':=
 (Zhu s w hs hG).mono fun _ _ ⟨he,hb⟩=>⟨he.trans (by unfold Zht;rw [h]),hb⟩
theorem Zm7 (s:ByteArray) (w:World) (hs:s.size<4294967281) (hG:ZtY w) {n:Int} {r:List UInt8} (h:ZbF s.data.toList=some (n,r)):Calls Tryz.prog 155 #[.string s] w fun e w'=>e = .returned (.tuple #[.int .i64 n,.string ⟨r.toArray⟩,.bool true])∧Below w.heap.size w w':=
 (Zhu s w hs hG).mono fun _ _ ⟨he,hb⟩=>⟨he.trans (by unfold Zht;rw [h]),hb⟩
theorem Ze9 (sep:ByteArray):∀ (k:Nat) (s p:ByteArray),p ∈ Lib.splitB sep 0 k s→p.size≤s.size
 | 0,s,p,h=>by
   rw [Lib.splitB_zero] at h
   simp at h
   rw [h];exact Nat.le_refl _
 | k+1,s,p,h=>by
   rcases Lib.index_spec s.data.toList sep.data.toList with ⟨h1,_⟩ | ⟨i,h1,_⟩
   ·rw [Lib.splitB_miss sep 0 (k+1) s h1] at h
    simp at h
    rw [h];exact Nat.le_refl _
   ·rw [Lib.splitB_hit sep 0 k s i h1] at h
    rcases List.mem_cons.1 h with h | h
    ·rw [h,ByteArray.size_extract];omega
    ·have:=Ze9 sep k _ p h
     rw [ByteArray.size_extract] at this
     omega
def Zdh (p:List UInt8):Bool:=decide (p≠[])&&decide (p[0]?≠some 32)&&decide (p.getLast?≠some 32)
theorem ZuT (a:UInt8):decide (some a≠some 32) = !((a.toNat:Int) == 32):=by
 by_cases h:a=32
 ·subst h;rfl
 ·have h2:a.toNat≠32:=fun e=>h (UInt8.toNat_inj.1 e)
  have h3:((a.toNat:Int) == 32)=false:=by rw [beq_eq_false_iff_ne];omega
  rw [h3];simp [h]
theorem Zki (x:ByteArray) (h:0<x.size):Zdh x.data.toList = !((x[0].toNat:Int) == 32||((x[x.size - 1]'(by omega)).toNat:Int) == 32):=by
 have hl:x.data.toList.length=x.size:=Array.length_toList
 have h1:x.data.toList≠[]:=fun e=>by rw [e] at hl;simp at hl;omega
 have h2:x.data.toList[0]? = some x[0]:=List.getElem?_eq_getElem (by omega)
 have h3:x.data.toList.getLast? = some (x[x.size - 1]'(by omega)):=by
  rw [List.getLast?_eq_getElem?,hl]
  exact List.getElem?_eq_getElem (by omega)
 unfold Zdh
 rw [h2,h3,ZuT,ZuT]
 simp [h1]
def ZfI (c:Int):Bool:=decide (c≠58) && !(decide (97≤c)&&decide (c≤122))
theorem ZgA {c:Int} (h:c=58):ZfI c=false:=by subst h;rfl
theorem ZgB {c:Int} (h:97≤c) (h':c≤122):ZfI c=false:=by simp [ZfI,h,h']
theorem Zfa {c:Int} (h:c≠58) (h':c<97∨122<c):ZfI c=true:=by
 unfold ZfI
 have:¬ (97≤c∧c≤122):=by omega
 simp [h];omega
def Title.valid (t:Title):Bool:=
 decide (0≤t.space)&&decide (t.space<6)&&decide (1≤t.name.size)&&decide (t.name.size≤100)&&Zcf (-1) t.name.data.toList &&
 (Lib.splitB ⟨#[47]⟩ 0 (Lib.countB t.name ⟨#[47]⟩) t.name).all (fun p=>Zdh p.data.toList) &&
 ZfI (t.name.data.toList.headD 0).toNat &&
 (decide (t.space≠0)||decide (ZbF t.name.data.toList=none))
set_option maxRecDepth 100000 in
set_option maxHeartbeats 1000000 in
theorem ZqL (t:Title) (w:World) (hG:ZtY w):Calls Tryz.prog 157 #[.agg #[.int .i64 t.space,.string t.name]] w fun e w'=>e = .returned (.bool t.valid)∧Below w.heap.size w w':=by
 obtain ⟨m,hm⟩:=hG
 obtain ⟨sp,s⟩:=t
 by_cases h:(0≤sp∧sp<6)∧(1≤s.size∧s.size≤100)∧Zcf (-1) s.data.toList=true
 ·obtain ⟨⟨h1,h2⟩,⟨h3,h4⟩,h5⟩:=h
  go_enter Tryz.func157,Tryz.ntmps157
  go_wp2_with (first | (go_at_call 200;refine (Zmc _ _ (by omega)).mono ?_;rintro e w' ⟨rfl,rfl⟩) | (go_at_call 197;refine (Tryz.strings_Split _ _ m _ (by omega) (by exact re1 (Below.al (Below.refl _ _) _) (ZbJ hm) hm) (by decide)).mono ?_;rintro e w' ⟨rfl,rfl⟩))
  have hcl:=Lib.splitB_all ⟨#[47]⟩ (by decide) 0 _ s rfl
  have hb:Below w.heap.size w ((w.alloc (Obj.cells #[Value.int IntKind.i64 sp,Value.string s] 29)).alloc (Obj.cells (List.map Value.string (Lib.splitB { data:=#[47] } 0 (Lib.countB s { data:=#[47] }) s)).toArray 9)):=Below.al (Below.al (Below.refl _ _) _) _
  have hS:=SlR.strs (w.alloc (Obj.cells #[Value.int IntKind.i64 sp,Value.string s] 29)) 9 (n:=Lib.countB s { data:=#[47] }+1) (Lib.splitB { data:=#[47] } 0 (Lib.countB s { data:=#[47] }) s) hcl.symm (by have:=Zmd s;omega)
  have e1:(w.alloc (Obj.cells #[Value.int IntKind.i64 sp,Value.string s] 29)).heap.size=w.heap.size+1:=by simp
  rw [e1] at hS
  have c0:((w.alloc (Obj.cells #[Value.int IntKind.i64 sp,Value.string s] 29)).alloc (Obj.cells (List.map Value.string (Lib.splitB { data:=#[47] } 0 (Lib.countB s { data:=#[47] }) s)).toArray 9)).cell? ⟨w.heap.size,0,none⟩=some (.int .i64 sp):=by go_simp
  generalize (w.alloc (Obj.cells #[Value.int IntKind.i64 sp,Value.string s] 29)).alloc (Obj.cells (List.map Value.string (Lib.splitB { data:=#[47] } 0 (Lib.countB s { data:=#[47] }) s)).toArray 9)=w2 at *
  have HB:=Lib.hid hb
  clear hb e1 hcl
  have hsp:Title.valid ⟨sp,s⟩=((Lib.splitB { data:=#[47] } 0 (Lib.countB s { data:=#[47] }) s).all (fun p=>Zdh p.data.toList)&&(ZfI (s.data.toList.headD 0).toNat &&
   (decide (sp≠0)||decide (ZbF s.data.toList=none)))):=by simp [Title.valid,h1,h2,h3,h4,h5,Bool.and_assoc]
  have splitB_sizes:=fun p h=>Nat.le_trans (Ze9 ⟨#[47]⟩ (Lib.countB s ⟨#[47]⟩) s p h) h4
  generalize Lib.countB s { data:=#[47] }=K at *
  generalize Lib.splitB { data:=#[47] } 0 K s=ps at *
  have HSP:=Lib.hid hsp
  have HK:=Lib.hid hS.1
  have hle:=hS.le
  clear hsp
  go_loopw [5,37] (fun _ i wr=>∃ q:Nat,q≤K+1∧i = .int .i64 q∧Below w2.heap.size w2 wr∧Hid (ps.all (fun p=>Zdh p.data.toList)=(ps.drop q).all (fun p=>Zdh p.data.toList))) (fun _ i _=>K+1 - (intOf i).toNat)
  case atStart=>exact ⟨0,by omega,rfl,Below.refl _ _,rfl⟩
  case round=>
   obtain ⟨q,hq,rfl,hbw,hA⟩:=hrel
   have HW:=Lib.hid hbw
   by_cases hlt:q<K+1
   ·obtain ⟨b,off,x,cs,hA0,hbl,hx,hd,hR,hc⟩:=(hS.mono hbw).elem hlt
    obtain ⟨rfl,rfl⟩:w.heap.size+1=b∧0=off:=by injection hA0 with h;injection h with h1 h2;exact ⟨h1,h2⟩
    have d0:wr.cell? ⟨w.heap.size+1,q,none⟩=some (.string x):=by subst hR;simpa using hc 0 _ rfl
    have HD:=Lib.hid hd
    have hxs:=splitB_sizes x (List.mem_of_getElem? hx)
    clear hA0 hx hd hR hc hbw hS h5 h1 h2 hbl splitB_sizes
    by_cases hx0:x.size=0
    ·have hx1:x.toList = []:=by rw [ByteArray.toList_eq];exact List.eq_nil_of_length_eq_zero (by rw [Array.length_toList];exact hx0)
     have HP:Hid (Zdh x.data.toList=false):=Lib.hid (by rw [← ByteArray.toList_eq,hx1];rfl)
     clear hx0
     go_wp2
     go_ret
     exact ⟨Zbj (by rw [HSP.out,hA.out,HD.out,List.all_cons,HP.out];rfl),Below.tr HB.out HW.out⟩
    ·have hx1:¬ x.toList = []:=fun e=>by rw [ByteArray.toList_eq] at e;exact hx0 (by have:=congrArg List.length e;rw [Array.length_toList] at this;exact this)
     have hx2:0<x.size:=by omega
     have hx3:(0:Int)≤(x.size:Int) - 1:=by omega
     have HP:=Lib.hid (Zki x hx2)
     clear hx0
     go_wp2
     all_goals (try simp only [beq_iff_eq,beq_eq_false_iff_ne,ne_eq,List.isEmpty_iff,List.isEmpty_eq_false_iff] at *)
     all_goals first
      | (exfalso;omega)
      | (go_ret;refine ⟨Zbj ?_,Below.tr HB.out HW.out⟩;rw [HSP.out,hA.out,HD.out,List.all_cons,HP.out];simp_all;done)
      | (go_roundw;(case rel=>(refine ⟨q+1,by omega,by go_num,HW.out,?_⟩;refine Lib.hid ?_;rw [hA.out,HD.out,List.all_cons,HP.out];simp_all));(case measure=>(simp [intOf];omega)))
   ·obtain rfl:q=K+1:=by omega
    have hz:ps.all (fun p=>Zdh p.data.toList)=true:=by
     rw [hA.out,List.drop_eq_nil_of_le (by rw [← HK.out];exact Nat.le_refl _)];rfl
    rw [hz,Bool.true_and] at HSP
    have c1:wr.cell? ⟨w.heap.size,0,none⟩=some (.int .i64 sp):=re1 hbw (ZbJ c0) c0
    have hm1:wr.cell? ⟨0,0,none⟩=some (.int .i64 m):=re1 (Below.tr HB.out hbw) (ZbJ hm) hm
    have hg:s.data.toList.headD 0=s[0]'(by omega):=ZqK s (by omega)
    rw [hg] at HSP
    have hs0:(0:Int)<s.size:=by omega
    clear hz hbw hS h5 hA c0 hle splitB_sizes hg hm
    rcases hp:ZbF s.data.toList with _ | ⟨n,r⟩
    ·rw [hp] at HSP
     have hpr:=fun W h1 h2=>Zm6 s W h1 h2 hp
     clear hp
     go_wp2_with (go_at_call 155;refine (hpr _ (by omega) ⟨m,by assumption⟩).mono ?_;rintro e w5 ⟨rfl,hb5⟩;have c2:=re1 hb5 (ZbJ c1) c1)
     all_goals
      go_ret
      refine ⟨Zbj ?_,?_⟩
      ·rw [HSP.out]
       simp only [beq_iff_eq,beq_eq_false_iff_ne,ne_eq] at *
       first
        | (rw [ZgA (by omega)];rfl)
        | (rw [ZgB (by omega) (by omega)];rfl)
        | (rw [Zfa (by omega) (by omega)];simp_all;done)
      ·first | exact Below.tr (Below.tr HB.out HW.out) (by assumption) | exact Below.tr HB.out HW.out
    ·rw [hp] at HSP
     have hpr:=fun W h1 h2=>Zm7 s W h1 h2 hp
     clear hp
     go_wp2_with (go_at_call 155;refine (hpr _ (by omega) ⟨m,by assumption⟩).mono ?_;rintro e w5 ⟨rfl,hb5⟩;have c2:=re1 hb5 (ZbJ c1) c1)
     all_goals
      go_ret
      refine ⟨Zbj ?_,?_⟩
      ·rw [HSP.out]
       simp only [beq_iff_eq,beq_eq_false_iff_ne,ne_eq] at *
       first
        | (rw [ZgA (by omega)];rfl)
        | (rw [ZgB (by omega) (by omega)];rfl)
        | (rw [Zfa (by omega) (by omega)];simp_all;done)
      ·first | exact Below.tr (Below.tr HB.out HW.out) (by assumption) | exact Below.tr HB.out HW.out
 ·go_enter Tryz.func157,Tryz.ntmps157
  have hv:Title.valid ⟨sp,s⟩=false:=by
   cases hV:Title.valid ⟨sp,s⟩ with
   | false=>rfl
   | true=>
     simp only [Title.valid,Bool.and_eq_true,decide_eq_true_eq] at hV
     obtain ⟨⟨⟨⟨⟨⟨⟨ha,hb⟩,hc⟩,hd⟩,hcl⟩,_⟩,_⟩,_⟩:=hV
     exact absurd ⟨⟨ha,hb⟩,⟨hc,hd⟩,hcl⟩ h
  have HV:=Lib.hid hv
  clear hv
  go_wp2_with (first | (go_at_call 200;refine (Zmc _ _ (by omega)).mono ?_;rintro e w' ⟨rfl,rfl⟩) | (go_at_call 197;exfalso;have h6:(!Zcf (-1) s.data.toList)=false:=And.right (by assumption);simp at h6;exact h ⟨⟨by omega,by omega⟩,⟨by omega,by omega⟩,h6⟩))
  all_goals
   go_ret
   exact ⟨Zbj HV.out.symm,Below.al (Below.refl _ _) _⟩
def ZuZ (b:Int):Int:=if 65≤b∧b≤90 then b+32 else b
set_option maxRecDepth 100000 in
set_option maxHeartbeats 400000 in
theorem ZlA (b:Int) (h0:0≤b) (h1:b<256) (w:World):Calls Tryz.prog 201 #[.int .u8 b] w fun e w'=>e = .returned (.int .u8 (ZuZ b))∧w=w':=by
 go_enter Tryz.func201,Tryz.ntmps201
 go_wp2
 all_goals
  go_ret
  refine ⟨Zjt ?_,rfl⟩
  unfold ZuZ
  first | (rw [if_pos (by omega)];done) | (rw [if_neg (by omega)];done)
theorem ZpE (c:UInt8):ZuZ c.toNat=(ZaE c).toNat:=by
 unfold ZuZ ZaE
 by_cases h:65≤c.toNat∧c.toNat≤90
 ·rw [if_pos (by omega),if_pos h];simp;omega
 ·rw [if_neg (by omega),if_neg h]
theorem Zuv (c:UInt8):0≤(c.toNat:Int)∧(c.toNat:Int)<256:=by have:=c.toNat_lt;omega
theorem ZlB (a b:ByteArray) (j:Nat) (hj:j+b.size≤a.size):((a.extract j (j+b.size)).toList == b.toList)=Lib.occAt a.data.toList b.data.toList j:=by
 rw [← Lib.piece_eq_occAt a b j hj,beq_toListBytes]
theorem Zuw {a b:ByteArray} {j:Nat} (hj:¬ j+b.size≤a.size) (hl:j≤a.size):Lib.occAt a.data.toList b.data.toList j=false:=by
 cases ho:Lib.occAt a.data.toList b.data.toList j with
 | false=>rfl
 | true=>
   rcases Lib.occAt_room ho with h | h
   ·rw [← Lib.size_eq,← Lib.size_eq] at h;omega
   ·have:b.size=0:=by rw [Lib.size_eq,h];rfl
    omega
set_option maxRecDepth 100000 in
set_option maxHeartbeats 1000000 in
theorem ZhR (s t:ByteArray) (w:World) (hs:s.size+t.size≤9223372036854775806):Calls Tryz.prog 93 #[.string s,.string t,.int .i64 0] w fun e w'=>e = .returned (.int .i64 (Lib.index s.data.toList t.data.toList))∧w=w':=by
 go_enter Tryz.func93,Tryz.ntmps93
 go_wp2
 go_loop [7] (fun i=>∃ q:Nat,q≤s.size+1∧i = .int .i64 q∧Hid (∀ j,j<q→Lib.occAt s.data.toList t.data.toList j=false)) (fun i=>s.size+1 - (intOf i).toNat)
 case atStart=>exact ⟨0,by omega,rfl,fun j h=>absurd h (by omega)⟩
 case round=>
  obtain ⟨q,hq,rfl,hno⟩:=hrel
  by_cases hlt:q+t.size≤s.size
  ·have b1:(0:Int)≤q:=by omega
   have b2:(q:Int)+(t.size:Int)≤(s.size:Int):=by omega
   go_wp2
   ·rename_i hocc _
    go_ret
    refine ⟨Zjt ?_,rfl⟩
    rw [ZlB s t q hlt] at hocc
    rw [Lib.index_first (by rw [← Lib.size_eq];omega) hocc hno.out]
   ·rename_i hocc
    rw [ZlB s t q hlt] at hocc
    refine ⟨⟨q+1,by omega,by simp,fun j hj=>?_⟩,by simp [intOf];omega⟩
    by_cases hjq:j<q
    ·exact hno.out j hjq
    ·have:j=q:=by omega
     subst this;exact hocc
  ·have b2:¬ (q:Int)+(t.size:Int)≤(s.size:Int):=by omega
   have b3:(s.size:Int)<(q:Int)+(t.size:Int):=by omega
   go_wp2
   all_goals
    first
    | (exfalso;omega)
    | (go_ret
       refine ⟨Zjt ?_,rfl⟩
       rw [Lib.index_none]
       intro j hj
       rw [← Lib.size_eq] at hj
       by_cases hjq:j<q
       ·exact hno.out j hjq
       ·exact Zuw (by omega) hj)
theorem ZmJ (c:UInt8) (w:World):Calls Tryz.prog 201 #[.int .u8 c.toNat] w fun e w'=>e = .returned (.int .u8 ((ZaE c).toNat:Int))∧w=w':=by
 refine (ZlA _ (Zuv c).1 (Zuv c).2 w).mono ?_
 rintro e w' ⟨rfl,rfl⟩
 exact ⟨by rw [ZpE],rfl⟩
def Zgs (a b:ByteArray):Bool:=decide (ZaD a.data.toList=ZaD b.data.toList)
theorem Zde (l:List UInt8):(ZaD l).length=l.length:=by simp [ZaD]
theorem Zoe {a b:ByteArray} (h:a.size≠b.size):Zgs a b=false:=by
 unfold Zgs
 refine decide_eq_false fun e=>h ?_
 have:=congrArg List.length e
 rw [Zde,Zde,Array.length_toList,Array.length_toList] at this
 exact this
theorem ZrE {a b:ByteArray} (j:Nat) (ha:j<a.size) (hb:j<b.size) (h:ZaE a[j]≠ZaE b[j]):Zgs a b=false:=by
 unfold Zgs
 refine decide_eq_false fun e=>h ?_
 have:=congrArg (·[j]?) e
 simp only [ZaD,List.getElem?_map] at this
 rw [show a.data.toList[j]? = some a[j] from List.getElem?_eq_getElem (by rw [Array.length_toList];exact ha),show b.data.toList[j]? = some b[j] from List.getElem?_eq_getElem (by rw [Array.length_toList];exact hb)] at this
 simpa using this
theorem ZpA {a b:ByteArray} (hs:a.size=b.size) (h:∀ j (ha:j<a.size) (hb:j<b.size),ZaE a[j]=ZaE b[j]):Zgs a b=true:=by
 unfold Zgs
 refine decide_eq_true (List.ext_getElem ?_ fun j h1 h2=>?_)
 ·rw [Zde,Zde,Array.length_toList,Array.length_toList];exact hs
 ·rw [Zde,Array.length_toList] at h1 h2
  simp only [ZaD,List.getElem_map]
  exact h j h1 h2
theorem Ztj {c d:UInt8} (h:¬ ((ZaE c).toNat:Int)=(ZaE d).toNat):ZaE c≠ZaE d:=fun e=>h (by rw [e])
theorem Ztk {c d:UInt8} (h:((ZaE c).toNat:Int)=(ZaE d).toNat):ZaE c=ZaE d:=UInt8.toNat_inj.1 (by omega)
set_option maxRecDepth 100000 in
set_option maxHeartbeats 2000000 in
theorem Zcw (a b:ByteArray) (w:World) (hsz:a.size≤4611686018427387904):Calls Tryz.prog 158 #[.string a,.string b] w fun e w'=>e = .returned (.bool (Zgs a b))∧Below w.heap.size w w':=by
 by_cases hl:a.size=b.size
 case neg=>
  have HE:=Lib.hid (Zoe hl)
  have h1:¬ (a.size:Int)=b.size:=by omega
  go_enter Tryz.func158,Tryz.ntmps158
  go_wp2
  all_goals first | (exfalso;omega) | (go_ret;exact ⟨Zbj HE.out.symm,Below.refl _ _⟩)
 have HN:Hid (∀ j (ha:j<a.size) (hb:j<b.size),¬ ((ZaE a[j]).toNat:Int)=(ZaE b[j]).toNat→Zgs a b=false):=Lib.hid fun j ha hb h=>ZrE j ha hb (Ztj h)
 have HG:Hid ((∀ j (ha:j<a.size) (hb:j<b.size),((ZaE a[j]).toNat:Int)=(ZaE b[j]).toNat)→Zgs a b=true):=Lib.hid fun h=>ZpA hl fun j ha hb=>Ztk (h j ha hb)
 have HL:=Lib.hid hl
 have hl1:(a.size:Int)=b.size:=by omega
 clear hl
 go_enter Tryz.func158,Tryz.ntmps158
 go_wp2_with fail
 clear hl1
 go_loopw [5] (fun i wr=>∃ q:Nat,q≤a.size∧i = .int .i64 q∧Below w.heap.size w wr∧Hid (∀ j (ha:j<a.size) (hb:j<b.size),j<q→((ZaE a[j]).toNat:Int)=(ZaE b[j]).toNat)) (fun i _=>a.size - (intOf i).toNat)
 case atStart=>exact ⟨0,by omega,rfl,Below.refl _ _,Lib.hid fun j _ _ h=>absurd h (by omega)⟩
 case round=>
  obtain ⟨q,hq,rfl,hbw,hno⟩:=hrel
  have HQ:=Lib.hid hbw
  clear hbw
  by_cases hlt:q<a.size
  ·have hlb:q<b.size:=by rw [← HL.out];exact hlt
   have HS:Hid (((ZaE a[q]).toNat:Int)=(ZaE b[q]).toNat→∀ j (ha:j<a.size) (hb:j<b.size),j<q+1→((ZaE a[j]).toNat:Int)=(ZaE b[j]).toNat):=Lib.hid fun h j hj hb hj2=>by
    by_cases e:j<q
    ·exact hno.out j hj hb e
    ·have:j=q:=by omega
     subst this;exact h
   have HN2:=Lib.hid (HN.out q hlt hlb)
   have b1:(0:Int)≤q:=by omega
   have b2:(q:Int)<(a.size:Int):=by omega
   have b3:(q:Int)<(b.size:Int):=by omega
   go_wp2_with fail
   go_quiet ((go_at_call 201;exact Calls.quiet_of_same ((ZmJ _ _).mono (fun e w' h=>⟨h.1,h.2.symm⟩))))
   go_wp2
   all_goals (try simp only [bne_iff_ne,bne_eq_false_iff_eq,ne_eq] at *)
   ·rename_i h
    go_ret
    exact ⟨Zbj (HN2.out h).symm,Below.dn HQ.out _⟩
   ·rename_i h
    exact ⟨⟨q+1,by omega,by simp,Below.dn HQ.out _,Lib.hid (HS.out h)⟩,by simp [intOf];omega⟩
  ·have HE:=Lib.hid (HG.out fun j hj hb=>hno.out j hj hb (by omega))
   have b2:(a.size:Int)≤(q:Int):=by omega
   go_wp2
   all_goals first | (exfalso;omega) | (go_ret;exact ⟨Zbj HE.out.symm,HQ.out⟩)
def Zge (z:Int):ByteArray:=if z=1 then ⟨#[84,97,108,107]⟩ else if z=2 then ⟨#[85,115,101,114]⟩ else if z=3 then ⟨#[84,101,109,112,108,97,116,101]⟩ else if z=4 then ⟨#[67,97,116,101,103,111,114,121]⟩ else if z=5 then ⟨#[80,114,111,106,101,99,116]⟩ else ⟨#[]⟩
set_option maxRecDepth 100000 in
set_option maxHeartbeats 2000000 in
theorem Zdl (z:Int) (w:World):Calls Tryz.prog 159 #[.int .i64 z] w fun e w'=>e = .returned (.string (Zge z))∧Below w.heap.size w w':=by
 have hz:z<0∨6≤z∨z=0∨z=1∨z=2∨z=3∨z=4∨z=5:=by omega
 have HE:Hid (z<0∨6≤z→Zge z=⟨#[]⟩):=Lib.hid fun h=>by
  unfold Zge
  rw [if_neg (by omega),if_neg (by omega),if_neg (by omega),if_neg (by omega),if_neg (by omega)]
 by_cases hin:0≤z∧z<6
 ·obtain ⟨h0,h6⟩:=hin
  obtain rfl | rfl | rfl | rfl | rfl | rfl:z=0∨z=1∨z=2∨z=3∨z=4∨z=5:=by omega
  all_goals
   go_enter Tryz.func159,Tryz.ntmps159
   go_wp2
   go_ret
   exact ⟨rfl,Below.al (Below.refl _ _) _⟩
 ·have HE2:=Lib.hid (HE.out (by omega))
  have hz2:z<0∨6≤z:=by omega
  clear hz hin HE
  go_enter Tryz.func159,Tryz.ntmps159
  rcases hz2 with hz2 | hz2
  all_goals
   go_wp2
  all_goals
   first
   | (exfalso;omega)
   | (go_ret
      exact ⟨by rw [HE2.out];rfl,Below.al (Below.refl _ _) _⟩)
theorem Zgt (z:Int) (h1:1≤z) (h2:z<6):ZaD (Zge z).data.toList=Zal z.toNat:=by
 obtain rfl | rfl | rfl | rfl | rfl:z=1∨z=2∨z=3∨z=4∨z=5:=by omega
 all_goals decide
def Zhq (p:ByteArray):ByteArray:=if h:0<p.size then (if (p[p.size - 1]'(by omega)).toNat=32 then p.extract 0 (p.size - 1) else p) else p
theorem ZpB (s:ByteArray) (k:Nat) {h0:min k s.size - 1<(s.extract 0 k).size} (h:(((s.extract 0 k)[min k s.size - 1]'h0).toNat:Int)=32):Zhq (s.extract 0 k)=(s.extract 0 k).extract 0 (min k s.size - 1):=by
 have hsz:(s.extract 0 k).size=min k s.size:=by simp [ByteArray.size_extract]
 unfold Zhq
 rw [dif_pos (by omega),if_pos (by simp only [hsz];omega),hsz]
theorem Zof (s:ByteArray) (k:Nat) {h0:min k s.size - 1<(s.extract 0 k).size} (h:¬ (((s.extract 0 k)[min k s.size - 1]'h0).toNat:Int)=32):Zhq (s.extract 0 k)=s.extract 0 k:=by
 have hsz:(s.extract 0 k).size=min k s.size:=by simp [ByteArray.size_extract]
 unfold Zhq
 rw [dif_pos (by omega),if_neg (by simp only [hsz];omega)]
theorem Zog (s:ByteArray) (k:Nat) (h:¬ 0<min k s.size):Zhq (s.extract 0 k)=s.extract 0 k:=by
 have hsz:(s.extract 0 k).size=min k s.size:=by simp [ByteArray.size_extract]
 unfold Zhq
 rw [dif_neg (by omega)]
def ZhQ (s:ByteArray):Int×Int:=
 if Lib.index s.data.toList [58]<0 then (0,0) else if Zbg (ZaD (Zhq (s.extract 0 (Lib.index s.data.toList [58]).toNat)).data.toList)=0 then (0,0) else (Zbg (ZaD (Zhq (s.extract 0 (Lib.index s.data.toList [58]).toNat)).data.toList),Lib.index s.data.toList [58])
theorem ZpC:∀ {s:List UInt8} {c:UInt8},0≤Lib.index s [c]→Lib.index s [c]<s.length:=by
 intro s
 induction s with
 | nil=>intro c h;exact absurd h (by simp [Lib.index])
 | cons a r ih=>
   intro c h
   by_cases h1:List.isPrefixOf [c] (a::r)=true
   ·simp only [Lib.index,h1,if_true];simp
   ·simp only [Lib.index,h1] at h ⊢
    by_cases h2:(Lib.index r [c] == -1)=true
    ·simp [h2] at h
    ·simp only [h2] at h ⊢
     have hge:0≤Lib.index r [c]:=by
      have h3:Lib.index r [c]≠-1:=fun e=>h2 (by rw [e];rfl)
      simp at h
      omega
     have:=ih hge
     simp
     omega
theorem ZrF {s:ByteArray} {c:UInt8} (h:0≤Lib.index s.data.toList [c]):Lib.index s.data.toList [c]<s.size:=by
 have:=ZpC h
 rw [Array.length_toList] at this
 exact this
set_option maxRecDepth 100000 in
set_option maxHeartbeats 2000000 in
theorem ZiU (s:ByteArray) (w:World) (hs:s.size≤4611686018427387904):Calls Tryz.prog 92 #[.string s] w fun e w'=>e = .returned (.tuple #[.int .i64 (ZhQ s).1,.int .i64 (ZhQ s).2])∧Below w.heap.size w w':=by
 have HR:Hid (ZhQ s=if Lib.index s.data.toList [58]<0 then (0,0) else if Zbg (ZaD (Zhq (s.extract 0 (Lib.index s.data.toList [58]).toNat)).data.toList)=0 then (0,0) else (Zbg (ZaD (Zhq (s.extract 0 (Lib.index s.data.toList [58]).toNat)).data.toList),Lib.index s.data.toList [58])):=Lib.hid rfl
 have HI:Hid (0≤Lib.index s.data.toList [58]→Lib.index s.data.toList [58]<s.size):=Lib.hid ZrF
 generalize ZhQ s=R at *
 go_enter Tryz.func92,Tryz.ntmps92
 go_wp2_with fail
 refine (ZhR s ⟨#[58]⟩ _ (by show s.size+1≤_;omega)).mono ?_
 rintro e w1 ⟨rfl,rfl⟩
 rw [show (⟨#[58]⟩:ByteArray).data.toList = [58] from rfl]
 generalize Lib.index s.data.toList [58]=at0 at *
 by_cases h0:at0<0
 ·obtain rfl:=HR.out.trans (if_pos h0)
  go_wp2
  all_goals first | (exfalso;omega) | (exact bodyPost_ret (v:=.tuple #[.int .i64 0,.int .i64 0]) (by simp [results,Tryz.results92,go_sem]) rfl ⟨rfl,Below.refl _ _⟩)
 obtain ⟨k,rfl⟩:∃ k:Nat,at0=k:=⟨at0.toNat,by omega⟩
 have hk:=HI.out (by omega)
 have HR2:=Lib.hid (HR.out.trans (if_neg h0))
 clear HR HI h0
 simp only [Int.toNat_natCast] at HR2
 have b1:(0:Int)≤k:=by omega
 by_cases hp:0<min k s.size
 case neg=>
  rw [Zog s k (by omega)] at HR2
  go_wp2_with fail
  have hNs:Hid ((s.extract 0 k).size≤4611686018427387904):=Lib.hid (by simp only [ByteArray.size_extract];omega)
  clear hs
  go_loopw [6] (fun i wr=>∃ z:Int,1≤z∧z≤6∧i = .int .i64 z∧Below w.heap.size w wr∧Hid (∀ j:Nat,1≤j→(j:Int)<z→ZaD (s.extract 0 k).data.toList≠Zal j)) (fun i _=>6 - (intOf i).toNat)
  case atStart=>exact ⟨1,by omega,by omega,rfl,Below.refl _ _,fun j _ h=>absurd h (by omega)⟩
  case round=>
   obtain ⟨z,hz0,hz6,rfl,hbw,hno⟩:=hrel
   have HQ:=Lib.hid hbw
   clear hbw
   by_cases h6:z=6
   ·subst h6
    have hz:Zbg (ZaD (s.extract 0 k).data.toList)=0:=Zep _ fun j h1 h2=>hno.out j h1 (by omega)
    obtain rfl:=HR2.out.trans (if_pos hz)
    clear hz
    go_wp2
    exact bodyPost_ret (v:=.tuple #[.int .i64 0,.int .i64 0]) (by simp [results,Tryz.results92,go_sem]) rfl ⟨rfl,HQ.out⟩
   ·have hz7:z<6:=by omega
    have HF:=Lib.hid (Zgt z hz0 hz7)
    go_wp2_with fail
    refine (Zdl z _).mono ?_
    rintro e w5 ⟨rfl,hb5⟩
    go_wp2_with fail
    refine (Zcw _ _ _ hNs.out).mono ?_
    rintro e w6 ⟨rfl,hb6⟩
    have HB6:=Lib.hid (Below.tr HQ.out (Below.tr hb5 hb6))
    clear hb5 hb6
    by_cases hsame:Zgs (s.extract 0 k) (Zge z)=true
    ·have hfl:ZaD (s.extract 0 k).data.toList=Zal z.toNat:=(of_decide_eq_true hsame).trans HF.out
     have hz:Zbg (ZaD (s.extract 0 k).data.toList)=z:=by rw [hfl,ZfB z.toNat (by omega) (by omega)];omega
     have hR:=HR2.out.trans (if_neg (by rw [hz];omega))
     rw [hz] at hR
     obtain rfl:=hR
     rw [hsame]
     clear hz hfl
     go_wp2
     exact bodyPost_ret (v:=.tuple #[.int .i64 z,.int .i64 k]) (by simp [results,Tryz.results92,go_sem]) rfl ⟨rfl,HB6.out⟩
    ·have hsame:Zgs (s.extract 0 k) (Zge z)=false:=by simpa using hsame
     have hfl:ZaD (s.extract 0 k).data.toList≠Zal z.toNat:=fun e=>of_decide_eq_false hsame (e.trans HF.out.symm)
     have HN:=Lib.hid hfl
     rw [hsame]
     clear hfl
     go_wp2
     go_roundw
     case rel=>
      refine ⟨z+1,by omega,by omega,rfl,HB6.out,fun j h1 h2=>?_⟩
      by_cases e:(j:Int)<z
      ·exact hno.out j h1 e
      ·have:j=z.toNat:=by omega
       subst this;exact HN.out
     case measure=>simp [intOf];omega
 have hq:min k s.size - 1<(s.extract 0 k).size:=by simp only [ByteArray.size_extract];omega
 have b3:(1:Int)≤(min k s.size:Nat):=by omega
 by_cases h:(((s.extract 0 k)[min k s.size - 1]'hq).toNat:Int)=32
 ·rw [ZpB s k h] at HR2
  go_wp2_with fail
  clear h b3 hp
  have hNs:Hid (((s.extract 0 k).extract 0 (min k s.size - 1)).size≤4611686018427387904):=Lib.hid (by simp only [ByteArray.size_extract];omega)
  clear hs
  go_loopw [6] (fun i wr=>∃ z:Int,1≤z∧z≤6∧i = .int .i64 z∧Below w.heap.size w wr∧Hid (∀ j:Nat,1≤j→(j:Int)<z→ZaD ((s.extract 0 k).extract 0 (min k s.size - 1)).data.toList≠Zal j)) (fun i _=>6 - (intOf i).toNat)
  case atStart=>exact ⟨1,by omega,by omega,rfl,Below.refl _ _,fun j _ h=>absurd h (by omega)⟩
  case round=>
   obtain ⟨z,hz0,hz6,rfl,hbw,hno⟩:=hrel
   have HQ:=Lib.hid hbw
   clear hbw
   by_cases h6:z=6
   ·subst h6
    have hz:Zbg (ZaD ((s.extract 0 k).extract 0 (min k s.size - 1)).data.toList)=0:=Zep _ fun j h1 h2=>hno.out j h1 (by omega)
    obtain rfl:=HR2.out.trans (if_pos hz)
    clear hz
    go_wp2
    exact bodyPost_ret (v:=.tuple #[.int .i64 0,.int .i64 0]) (by simp [results,Tryz.results92,go_sem]) rfl ⟨rfl,HQ.out⟩
   ·have hz7:z<6:=by omega
    have HF:=Lib.hid (Zgt z hz0 hz7)
    go_wp2_with fail
    refine (Zdl z _).mono ?_
    rintro e w5 ⟨rfl,hb5⟩
    go_wp2_with fail
    refine (Zcw _ _ _ hNs.out).mono ?_
    rintro e w6 ⟨rfl,hb6⟩
    have HB6:=Lib.hid (Below.tr HQ.out (Below.tr hb5 hb6))
    clear hb5 hb6
    by_cases hsame:Zgs ((s.extract 0 k).extract 0 (min k s.size - 1)) (Zge z)=true
    ·have hfl:ZaD ((s.extract 0 k).extract 0 (min k s.size - 1)).data.toList=Zal z.toNat:=(of_decide_eq_true hsame).trans HF.out
     have hz:Zbg (ZaD ((s.extract 0 k).extract 0 (min k s.size - 1)).data.toList)=z:=by rw [hfl,ZfB z.toNat (by omega) (by omega)];omega
     have hR:=HR2.out.trans (if_neg (by rw [hz];omega))
     rw [hz] at hR
     obtain rfl:=hR
     rw [hsame]
     clear hz hfl
     go_wp2
     exact bodyPost_ret (v:=.tuple #[.int .i64 z,.int .i64 k]) (by simp [results,Tryz.results92,go_sem]) rfl ⟨rfl,HB6.out⟩
    ·have hsame:Zgs ((s.extract 0 k).extract 0 (min k s.size - 1)) (Zge z)=false:=by simpa using hsame
     have hfl:ZaD ((s.extract 0 k).extract 0 (min k s.size - 1)).data.toList≠Zal z.toNat:=fun e=>of_decide_eq_false hsame (e.trans HF.out.symm)
     have HN:=Lib.hid hfl
     rw [hsame]
     clear hfl
     go_wp2
     go_roundw
     case rel=>
      refine ⟨z+1,by omega,by omega,rfl,HB6.out,fun j h1 h2=>?_⟩
      by_cases e:(j:Int)<z
      ·exact hno.out j h1 e
      ·have:j=z.toNat:=by omega
       subst this;exact HN.out
     case measure=>simp [intOf];omega
 ·rw [Zof s k h] at HR2
  have h2:((((s.extract 0 k)[min k s.size - 1]'hq).toNat:Int) == 32)=false:=beq_eq_false_iff_ne.2 h
  clear h
  go_wp2_with fail
  clear h2 hp
  have hNs:Hid ((s.extract 0 k).size≤4611686018427387904):=Lib.hid (by simp only [ByteArray.size_extract];omega)
  clear hs
  go_loopw [6] (fun i wr=>∃ z:Int,1≤z∧z≤6∧i = .int .i64 z∧Below w.heap.size w wr∧Hid (∀ j:Nat,1≤j→(j:Int)<z→ZaD (s.extract 0 k).data.toList≠Zal j)) (fun i _=>6 - (intOf i).toNat)
  case atStart=>exact ⟨1,by omega,by omega,rfl,Below.refl _ _,fun j _ h=>absurd h (by omega)⟩
  case round=>
   obtain ⟨z,hz0,hz6,rfl,hbw,hno⟩:=hrel
   have HQ:=Lib.hid hbw
   clear hbw
   by_cases h6:z=6
   ·subst h6
    have hz:Zbg (ZaD (s.extract 0 k).data.toList)=0:=Zep _ fun j h1 h2=>hno.out j h1 (by omega)
    obtain rfl:=HR2.out.trans (if_pos hz)
    clear hz
    go_wp2
    exact bodyPost_ret (v:=.tuple #[.int .i64 0,.int .i64 0]) (by simp [results,Tryz.results92,go_sem]) rfl ⟨rfl,HQ.out⟩
   ·have hz7:z<6:=by omega
    have HF:=Lib.hid (Zgt z hz0 hz7)
    go_wp2_with fail
    refine (Zdl z _).mono ?_
    rintro e w5 ⟨rfl,hb5⟩
    go_wp2_with fail
    refine (Zcw _ _ _ hNs.out).mono ?_
    rintro e w6 ⟨rfl,hb6⟩
    have HB6:=Lib.hid (Below.tr HQ.out (Below.tr hb5 hb6))
    clear hb5 hb6
    by_cases hsame:Zgs (s.extract 0 k) (Zge z)=true
    ·have hfl:ZaD (s.extract 0 k).data.toList=Zal z.toNat:=(of_decide_eq_true hsame).trans HF.out
     have hz:Zbg (ZaD (s.extract 0 k).data.toList)=z:=by rw [hfl,ZfB z.toNat (by omega) (by omega)];omega
     have hR:=HR2.out.trans (if_neg (by rw [hz];omega))
     rw [hz] at hR
     obtain rfl:=hR
     rw [hsame]
     clear hz hfl
     go_wp2
     exact bodyPost_ret (v:=.tuple #[.int .i64 z,.int .i64 k]) (by simp [results,Tryz.results92,go_sem]) rfl ⟨rfl,HB6.out⟩
    ·have hsame:Zgs (s.extract 0 k) (Zge z)=false:=by simpa using hsame
     have hfl:ZaD (s.extract 0 k).data.toList≠Zal z.toNat:=fun e=>of_decide_eq_false hsame (e.trans HF.out.symm)
     have HN:=Lib.hid hfl
     rw [hsame]
     clear hfl
     go_wp2
     go_roundw
     case rel=>
      refine ⟨z+1,by omega,by omega,rfl,HB6.out,fun j h1 h2=>?_⟩
      by_cases e:(j:Int)<z
      ·exact hno.out j h1 e
      ·have:j=z.toNat:=by omega
       subst this;exact HN.out
     case measure=>simp [intOf];omega
theorem Zft:∀ (css:List (List Value)) (xs:List ByteArray),css.length=xs.length→(∀ (i:Nat) (x:ByteArray) (cs:List Value),xs[i]? = some x→css[i]? = some cs→cs = [.string x])→css.flatten=xs.map Value.string
 | [],[],_,_=>rfl
 | [],_::_,h,_=>by simp at h
 | _::_,[],h,_=>by simp at h
 | c::css,x::xs,h,hR=>by
   have h0:=hR 0 x c rfl rfl
   subst h0
   rw [List.flatten_cons,Zft css xs (by simpa using h) (fun i y cs hy hcs=>hR (i+1) y cs (by simpa using hy) (by simpa using hcs))]
   rfl
theorem OwnL.row {w:World} {B:Nat} {E:TypeId} {v:Value} {xs:List ByteArray} (h:OwnL w B E v xs):w.ownsRow B E 1 v xs.length (xs.map Value.string):=by
 obtain ⟨css,hl,hr,hR⟩:=h
 rw [Zft css xs hl (fun i x cs hx hcs=>hR i x cs hx hcs)] at hr
 exact hr
theorem OwnL.of_row {w:World} {B:Nat} {E:TypeId} {v:Value} {xs:List ByteArray} (h:w.ownsRow B E 1 v xs.length (xs.map Value.string)):OwnL w B E v xs:=by
 refine ⟨xs.map (fun x=>[.string x]),by simp,?_,fun i x cs hx hcs=>?_⟩
 ·rw [Zft _ xs (by simp) (fun i x cs hx hcs=>by rw [List.getElem?_map,hx] at hcs;simpa using hcs.symm)]
  exact h
 ·rw [List.getElem?_map,hx] at hcs
  show cs = [.string x]
  simpa using hcs.symm
theorem OwnL.cellS {w:World} {B:Nat} {E:TypeId} {g n c:Nat} {xs:List ByteArray} (h:OwnL w B E (.slice (some ⟨g,0,none⟩) n c) xs) (hn:n=xs.length) {i:Nat} {x:ByteArray} (hx:xs[i]? = some x):w.cell? ⟨g,i,none⟩=some (.string x):=by
 subst hn
 have hi:=(List.getElem?_eq_some_iff.1 hx).1
 rw [h.row.cellAt i (by omega),List.getElem?_map,hx]
 rfl
theorem OwnL.frozenS {w:World} {B:Nat} {E:TypeId} {g n c:Nat} {xs:List ByteArray} (h:OwnL w B E (.slice (some ⟨g,0,none⟩) n c) xs) (hn:n=xs.length) (i:Nat):w.frozen? ⟨g,i,none⟩=false:=by
 subst hn
 exact h.row.frozenAt i
theorem OwnL.setS {w:World} {B:Nat} {E:TypeId} {g n c:Nat} {xs:List ByteArray} (h:OwnL w B E (.slice (some ⟨g,0,none⟩) n c) xs) (hn:n=xs.length) (i:Nat) (y:ByteArray):OwnL (w.setCell ⟨g,i,none⟩ (.string y)) B E (.slice (some ⟨g,0,none⟩) n c) (xs.set i y):=by
 subst hn
 have:=(h.row.stored i (.string y)).1
 refine OwnL.of_row ?_
 rw [List.length_set,List.map_set]
 exact this
def Zcz (l:List ByteArray) (c:UInt8):List ByteArray:=if c.toNat=47 then l ++ [⟨#[]⟩] else l.set (l.length - 1) (l[l.length - 1]?.getD ⟨#[]⟩++⟨#[c]⟩)
def Zeq (s:List UInt8):List ByteArray:=s.foldl Zcz [⟨#[]⟩]
theorem okS:Zlj Tryz.prog 48 9 (Enc.k ByteArray) 16:=Zuj Tryz.underlying48 (by kernel_rfl)
theorem Zm0 (s:ByteArray) (q:Nat) (h:q<s.size):Zeq (s.data.toList.take (q+1))=Zcz (Zeq (s.data.toList.take q)) s[q]:=by
 have h2:s.data.toList[q]? = some s[q]:=List.getElem?_eq_getElem (by rw [Array.length_toList];exact h)
 unfold Zeq
 rw [List.take_add_one,h2,List.foldl_append]
 rfl
theorem Zg0 {l:List ByteArray} {c:UInt8} {q:Nat} (h:∀ p ∈ l,p.size≤q):∀ p ∈ Zcz l c,p.size≤q+1:=by
 intro p hp
 unfold Zcz at hp
 split at hp
 ·rcases List.mem_append.1 hp with hp | hp
  ·have:=h p hp;omega
  ·rw [List.mem_singleton.1 hp];exact Nat.zero_le _
 ·rcases List.mem_or_eq_of_mem_set hp with hp | hp
  ·have:=h p hp;omega
  ·rw [hp,ByteArray.size_append]
   have:(⟨#[c]⟩:ByteArray).size=1:=rfl
   cases hx:l[l.length - 1]? with
   | none=>simp only [Option.getD_none];rw [this];have:(⟨#[]⟩:ByteArray).size=0:=rfl;omega
   | some x=>have:=h x (List.mem_of_getElem? hx);simp only [Option.getD_some];omega
theorem Zqk (s:ByteArray) (q:Nat) (h:q<s.size):s.extract q (q+1)=⟨#[s[q]]⟩:=by
 have h2:s.data.toList[q]? = some s[q]:=List.getElem?_eq_getElem (by rw [Array.length_toList];exact h)
 refine toList_inj ?_
 rw [Lib.extract_toList,ByteArray.toList_eq]
 show _ = [s[q]]
 rw [Nat.add_sub_cancel_left,List.take_one,List.head?_drop,h2]
 rfl
set_option maxRecDepth 100000 in
set_option maxHeartbeats 2000000 in
theorem ZlY (s:ByteArray) (w:World) (hs:s.size≤1099511627776):Calls Tryz.prog 95 #[.string s] w fun e w'=>∃ v,e = .returned v∧OwnL w' w.heap.size 9 v (Zeq s.data.toList)∧Below w.heap.size w w':=by
 go_enter Tryz.func95,Tryz.ntmps95
 go_wp2_with fail
 have hO:OwnL (w.alloc (Obj.cells #[Value.string { data:=#[] }] 9)) w.heap.size 9 (.slice (some ⟨w.heap.size,0,none⟩) 1 1) [(⟨#[]⟩:ByteArray)]:=
  OwnL.built [[.string ⟨#[]⟩]] _ (Nat.le_refl _) rfl rfl (by decide) (fun i x cs hx hcs=>by
   rcases i with _ | i
   ·simp at hx hcs;subst hx;subst hcs;exact rfl
   ·simp at hx) rfl
 have HO:=Lib.hid hO
 clear hO
 go_loopw [3,4] (fun l i wr=>∃ q g n c:Nat,q≤s.size∧i = .int .i64 q∧l = .slice (some ⟨g,0,none⟩) n c∧n=(Zeq (s.data.toList.take q)).length∧1≤n∧n≤q+1∧Hid (∀ p ∈ Zeq (s.data.toList.take q),p.size≤q)∧Below w.heap.size w wr∧OwnL wr w.heap.size 9 (.slice (some ⟨g,0,none⟩) n c) (Zeq (s.data.toList.take q))) (fun _ i _=>s.size - (intOf i).toNat)
 case atStart=>exact ⟨0,w.heap.size,1,1,by omega,rfl,rfl,rfl,by omega,by omega,Lib.hid (fun p hp=>by rw [List.mem_singleton.1 hp];exact Nat.zero_le _),Below.al (Below.refl _ _) _,HO.out⟩
 case round=>
  obtain ⟨q,g,n,c,hq,rfl,rfl,hn,h1,h2,HSZ,hbw,hown⟩:=hrel
  have HN:=Lib.hid hn
  have HQ:=Lib.hid hbw
  have HW:=Lib.hid hown
  clear hn hbw hown HO
  by_cases hlt:q<s.size
  ·have b1:(0:Int)≤q:=by omega
   have b2:(q:Int)<(s.size:Int):=by omega
   have HP:=Lib.hid (Zm0 s q hlt)
   generalize Zeq (s.data.toList.take q)=L at *
   by_cases h47:(s[q].toNat:Int)=47
   ·have hl:=HW.out
    have b3:n+1≤maxLen:=by unfold maxLen;omega
    have b4:(n+1) * 16≤140737488355328:=by omega
    have B3:Hid (L.length+1≤maxLen):=Lib.hid (by rw [← HN.out];exact b3)
    have B4:Hid ((L.length+1) * 16≤140737488355328):=Lib.hid (by rw [← HN.out];exact b4)
    have hg:w.heap.size≤wr.heap.size:=HQ.out.size
    clear hl b3 b4
    go_wp2_with (at_builtin;go_must (refine Ziz rfl _ _ 48 rfl okS (by decide) (B:=w.heap.size) (v:=.slice (some ⟨g,0,none⟩) n c) (xs:=L) rfl (HW.out.keep (Below.al (Below.refl _ _) _)) (ys:=[(⟨#[]⟩:ByteArray)]) rfl (SlR.made (fun x:ByteArray=>[.string x]) (fun _ _ _=>rfl) _ _ (by simp) rfl (by simp) rfl) (fun _ _ _ h=>h) B3.out B4.out (by simp;omega) ?_);intro v' w' hown hg2 hv')
    obtain ⟨A,c',rfl,_,hA⟩:=hown.sl
    obtain ⟨g',rfl,_,_⟩:=hA (by simp)
    have hst:Zcz L s[q]=L ++ [⟨#[]⟩]:=by unfold Zcz;rw [if_pos (by omega)]
    refine ⟨⟨q+1,g',_,c',by omega,rfl,rfl,?_,?_,?_,?_,?_,?_⟩,by simp [intOf];omega⟩
    ·rw [HP.out,hst]
    ·simp
    ·simp only [List.length_append,List.length_singleton];rw [← HN.out];omega
    ·rw [HP.out];exact Lib.hid (Zg0 HSZ.out)
    ·exact (HQ.out.alloc hg _).grown hg2 (by simp;omega) (fun j hj=>by cases hj;exact HW.out.ge rfl)
    ·rw [HP.out,hst];exact hown
   ·obtain ⟨x,hx⟩:∃ x,L[n - 1]? = some x:=⟨_,List.getElem?_eq_getElem (by have:=HN.out;omega)⟩
    have c0:=HW.out.cellS HN.out hx
    have f0:=HW.out.frozenS HN.out (n - 1)
    have HX:=Lib.hid hx
    have hxs:=HSZ.out x (List.mem_of_getElem? hx)
    clear hx
    have hext:(s.extract q (q+1)).size=1:=by rw [Zqk s q hlt];rfl
    have b4:x.size+(s.extract q (q+1)).size≤9223372036854775807:=by rw [hext];omega
    have b5:x.size+(min (q+1) s.size - q)≤9223372036854775807:=by omega
    clear hext hxs
    have b3:(1:Int)≤n:=by omega
    obtain ⟨m,rfl⟩:∃ m:Nat,n=m+1:=⟨n - 1,by omega⟩
    simp only [Nat.add_sub_cancel] at c0 f0 HX
    go_upto_region 7 with fail
    go_region
    go_wp2
    refine ⟨⟨q+1,g,m+1,c,by omega,rfl,rfl,?_,by omega,by omega,?_,?_,?_⟩,by simp [intOf];omega⟩
    ·rw [HP.out];unfold Zcz;rw [if_neg (by omega),List.length_set];exact HN.out
    ·rw [HP.out];exact Lib.hid (Zg0 HSZ.out)
    ·have hge:w.heap.size≤g:=HW.out.ge rfl
     have hbs:Below w.heap.size w (wr.setCell ⟨g,m,none⟩ (.string (x++s.extract q (q+1)))):=HQ.out.setCell hge _
     exact Below.drew hbs
    ·refine OwnL.keep (Below.refl _ _).drew ?_
     have hst:=HW.out.setS HN.out m (x++s.extract q (q+1))
     rw [HP.out]
     unfold Zcz
     rw [if_neg (by omega),← HN.out,Nat.add_sub_cancel,HX.out,Option.getD_some,← Zqk s q hlt]
     exact hst
  ·have b2:(s.size:Int)≤(q:Int):=by omega
   obtain rfl:q=s.size:=by omega
   rw [List.take_of_length_le (by rw [Array.length_toList];exact Nat.le_refl _)] at HW
   go_wp2
   go_ret
   exact ⟨_,rfl,HW.out,HQ.out⟩
def ZfL:List UInt8→List UInt8→List (List UInt8)
 | a,[]=>[a]
 | a,c::r=>if c.toNat=47 then a::ZfL [] r else ZfL (a ++ [c]) r
theorem ZfM:∀ (s a r:List UInt8),(∀ k:Nat,s[k]?≠some 47)→ZfL a (s++r)=ZfL (a++s) r
 | [],a,r,_=>by simp
 | c::s,a,r,h=>by
   have h0:c.toNat≠47:=fun e=>h 0 (by simp;exact UInt8.toNat_inj.1 e)
   rw [List.cons_append,ZfL,if_neg h0,ZfM s (a ++ [c]) r (fun k=>by have:=h (k+1);simpa using this),List.append_assoc]
   rfl
theorem Zle (l:List ByteArray) (p:ByteArray) (c:UInt8):Zcz (l ++ [p]) c=if c.toNat=47 then l ++ [p] ++ [⟨#[]⟩] else l ++ [p++⟨#[c]⟩]:=by
 unfold Zcz
 by_cases h:c.toNat=47
 ·rw [if_pos h,if_pos h]
 ·rw [if_neg h,if_neg h]
  have hl:(l ++ [p]).length - 1=l.length:=by simp
  rw [hl,List.getElem?_append_right (Nat.le_refl _),Nat.sub_self,List.set_append_right _ _ (Nat.le_refl _),Nat.sub_self]
  rfl
theorem Zsn (p:ByteArray) (c:UInt8):(p++⟨#[c]⟩:ByteArray).data.toList=p.data.toList ++ [c]:=by
 simp
theorem ZgD:∀ (s:List UInt8) (l:List ByteArray) (p:ByteArray),(s.foldl Zcz (l ++ [p])).map (·.data.toList)=l.map (·.data.toList)++ZfL p.data.toList s
 | [],l,p=>by simp [ZfL]
 | c::r,l,p=>by
   rw [List.foldl_cons,Zle,ZfL]
   by_cases h:c.toNat=47
   ·rw [if_pos h,if_pos h,ZgD r (l ++ [p]) ⟨#[]⟩]
    simp
   ·rw [if_neg h,if_neg h,ZgD r l _,Zsn]
theorem Zm9 (s:List UInt8):(Zeq s).map (·.data.toList)=ZfL [] s:=by
 have:=ZgD s [] ⟨#[]⟩
 simpa [Zeq] using this
theorem Zkj:∀ (k:Nat) (s:ByteArray),Lib.countB s ⟨#[47]⟩=k→(Lib.splitB ⟨#[47]⟩ 0 k s).map (·.data.toList)=ZfL [] s.data.toList
 | k,s,hk=>by
   have h1:Lib.indexB s ⟨#[47]⟩=Lib.indexByte s.data.toList 47:=Lib.index_one _ _
   rcases Lib.indexB_cases s ⟨#[47]⟩ with hi | ⟨i,hi,hlt⟩
   ·rw [Lib.splitB_miss _ _ _ _ hi]
    have:=ZfM s.data.toList [] [] (Lib.indexByte_none (h1.symm.trans hi))
    rw [List.append_nil] at this
    rw [this]
    rfl
   ·have hc:=Lib.countB_hit s ⟨#[47]⟩ i (by decide) hi
    obtain ⟨k',rfl⟩:∃ k',k=k'+1:=⟨k - 1,by omega⟩
    rw [Lib.splitB_hit _ _ _ _ i hi,List.map_cons,Zkj k' _ (by omega)]
    have he:(⟨#[47]⟩:ByteArray).size=1:=rfl
    rw [he,Lib.extract_to_end,Lib.extract_data]
    obtain ⟨h2,h3⟩:=Lib.indexByte_some (h1.symm.trans hi)
    have hil:=(List.getElem?_eq_some_iff.1 h2).1
    have hsplit:s.data.toList=s.data.toList.take i++(47::s.data.toList.drop (i+1)):=by
     have h4:s.data.toList.drop i=47::s.data.toList.drop (i+1):=by
      rw [List.drop_eq_getElem_cons hil]
      rw [List.getElem?_eq_getElem hil] at h2
      rw [Option.some.inj h2]
     rw [← h4,List.take_append_drop]
    conv=>rhs;rw [hsplit]
    rw [ZfM _ [] _ (fun k hk=>by
     rw [List.getElem?_take] at hk
     split at hk
     ·rename_i hki;exact h3 k hki hk
     ·cases hk),ZfL,if_pos (by decide)]
    simp
theorem Zjo (s:ByteArray) (f:List UInt8→Bool):(Zeq s.data.toList).all (fun p=>f p.data.toList)=(Lib.splitB ⟨#[47]⟩ 0 (Lib.countB s ⟨#[47]⟩) s).all (fun p=>f p.data.toList):=by
 have h1:=congrArg (·.all f) (Zm9 s.data.toList)
 have h2:=congrArg (·.all f) (Zkj _ s rfl)
 simp only [List.all_map] at h1 h2
 exact h1.trans h2.symm
theorem ZoK (p:ByteArray):(Zhq p).data.toList=Lib.trimSuffix p.data.toList [32]:=by
 have hl:p.data.toList.length=p.size:=Array.length_toList
 unfold Zhq Lib.trimSuffix Lib.hasSuffix
 by_cases h:0<p.size
 ·have hd:p.data.toList.drop (p.data.toList.length - [(32:UInt8)].length) = [p[p.size - 1]]:=by
   rw [hl,List.length_singleton,List.drop_eq_getElem_cons (by omega),List.drop_eq_nil_of_le (by omega)]
   rfl
  have hap:=List.take_append_drop (p.data.toList.length - [(32:UInt8)].length) p.data.toList
  rw [hd] at hap
  rw [dif_pos h]
  by_cases h2:(p[p.size - 1]'(by omega)).toNat=32
  ·have h3:p[p.size - 1]=(32:UInt8):=UInt8.toNat_inj.1 h2
   rw [h3] at hap
   rw [if_pos h2,if_pos (List.isSuffixOf_iff_suffix.2 ⟨_,hap⟩),Lib.extract_data,hl]
   simp
  ·have h3:p[p.size - 1]≠(32:UInt8):=fun e=>h2 (by rw [e];rfl)
   rw [if_neg h2,if_neg]
   intro hs
   obtain ⟨t,ht⟩:=List.isSuffixOf_iff_suffix.1 hs
   rw [← hap] at ht
   have:=(List.append_inj' ht rfl).2
   simp at this
   exact h3 this.symm
 ·have h0:p.data.toList = []:=List.eq_nil_of_length_eq_zero (by omega)
  rw [dif_neg h,h0]
  rfl
theorem Zlf (s:ByteArray):ZhQ s=match ZbF s.data.toList with
  | some (n,_)=>(n,Lib.index s.data.toList [58])
  | none=>(0,0):=by
 unfold ZhQ ZbF Lib.cut
 by_cases h:Lib.index s.data.toList [58]<0
 ·rw [if_pos h,if_neg (show ¬ 0≤Lib.index s.data.toList [58] by omega)]
  simp
 ·rw [if_neg h,if_pos (show 0≤Lib.index s.data.toList [58] by omega)]
  have he:(Zhq (s.extract 0 (Lib.index s.data.toList [58]).toNat)).data.toList=Lib.trimSuffix (s.data.toList.take (Lib.index s.data.toList [58]).toNat) [32]:=by
   rw [ZoK,Lib.extract_data]
   simp
  rw [he]
  by_cases h2:Zbg (ZaD (Lib.trimSuffix (s.data.toList.take (Lib.index s.data.toList [58]).toNat) [32]))=0
  ·rw [if_pos h2,if_neg (by simp [h2])]
  ·rw [if_neg h2,if_pos ⟨rfl,h2⟩]
theorem Zmg {s:List UInt8} {n:Int} {r:List UInt8} (h:ZbF s=some (n,r)):0≤Lib.index s [58]∧r=s.drop ((Lib.index s [58]).toNat+1)∧n=Zbg (ZaD (Lib.trimSuffix (s.take (Lib.index s [58]).toNat) [32]))∧n≠0:=by
 unfold ZbF Lib.cut at h
 by_cases h0:0≤Lib.index s [58]
 ·rw [if_pos h0] at h
  simp only [true_and,List.length_singleton] at h
  split at h
  ·rename_i h2
   simp only [Option.some.injEq,Prod.mk.injEq] at h
   exact ⟨h0,h.2.symm,h.1.symm,h.1 ▸ h2⟩
  ·cases h
 ·rw [if_neg h0] at h
  simp at h
theorem Zna (s:ByteArray):decide ((ZhQ s).1=0)=decide (ZbF s.data.toList=none):=by
 rw [Zlf]
 cases h:ZbF s.data.toList with
 | none=>rfl
 | some x=>
   obtain ⟨n,r⟩:=x
   have:=(Zmg h).2.2.2
   simp [this]
theorem ZiD (s:ByteArray) (q:Nat) (hq:q<s.size) (w:World):Calls Tryz.prog 93 #[.string ⟨#[60,62,91,93,123,125,124,35,95]⟩,.string (s.extract q (q+1)),.int .i64 0] w fun e w'=>e = .returned (.int .i64 (Lib.indexByte ZfH s[q]))∧w=w':=by
 rw [Zqk s q hq]
 refine (ZhR _ _ w (by show 9+1≤_;omega)).mono ?_
 rintro e w' ⟨rfl,rfl⟩
 refine ⟨?_,rfl⟩
 rw [← Lib.index_one]
 rfl
set_option maxRecDepth 100000 in
set_option maxHeartbeats 4000000 in
theorem Zlm (t:Title) (w:World):Calls Tryz.prog 57 #[.agg #[.int .i64 t.space,.string t.name]] w fun e w'=>e = .returned (.bool t.valid)∧Below w.heap.size w w':=by
 obtain ⟨sp,s⟩:=t
 by_cases h:0≤sp∧sp<6∧1≤s.size∧s.size≤100
 case neg=>
  have hv:Title.valid ⟨sp,s⟩=false:=by
   cases hV:Title.valid ⟨sp,s⟩ with
   | false=>rfl
   | true=>
     simp only [Title.valid,Bool.and_eq_true,decide_eq_true_eq] at hV
     obtain ⟨⟨⟨⟨⟨⟨⟨ha,hb⟩,hc⟩,hd⟩,hcl⟩,_⟩,_⟩,_⟩:=hV
     exact absurd ⟨ha,hb,hc,hd⟩ h
  have HV:=Lib.hid hv
  have h':sp<0∨6≤sp∨(s.size:Int)<1∨(100:Int)<s.size:=by omega
  clear h hv
  go_enter Tryz.func57,Tryz.ntmps57
  go_wp2
  all_goals
   first
   | (exfalso;omega)
   | (go_ret
      exact ⟨Zbj HV.out.symm,Below.al (Below.refl _ _) _⟩)
 obtain ⟨h1,h2,h3,h4⟩:=h
 have hs1:(1:Int)≤s.size:=by omega
 have hs2:(s.size:Int)≤100:=by omega
 have HSP:Hid (Title.valid ⟨sp,s⟩=(Zcf (-1) s.data.toList&&((Zeq s.data.toList).all (fun p=>Zdh p.data.toList)&&(ZfI (s[0]'(by omega)).toNat&&(decide (sp≠0)||decide ((ZhQ s).1=0)))))):=Lib.hid (by
  rw [Zjo s Zdh,Zna,← ZqK s (by omega)]
  simp [Title.valid,h1,h2,h3,h4,Bool.and_assoc])
 go_enter Tryz.func57,Tryz.ntmps57
 go_wp2_with fail
 all_goals try (exfalso;omega)
 generalize hw1:w.alloc _=w1
 have c0_0:w1.cell? ⟨w.heap.size,0,none⟩=some (.int .i64 sp):=by subst hw1;go_simp
 have c0_1:w1.cell? ⟨w.heap.size,1,none⟩=some (.string s):=by subst hw1;go_simp
 have HB:Hid (Below w.heap.size w w1):=by subst hw1;exact Below.al (Below.refl _ _) _
 clear hw1
 have HF:Hid (∀ W,Below w1.heap.size w1 W→W.cell? ⟨w.heap.size,0,none⟩=some (.int .i64 sp)∧W.cell? ⟨w.heap.size,1,none⟩=some (.string s)):=fun W h=>⟨re1 h (ZbJ c0_0) c0_0,re1 h (ZbJ c0_1) c0_1⟩
 go_loopw [4] (fun i wr=>∃ q:Nat,q≤s.size∧i = .int .i64 q∧wr=w1∧Hid (Zcf (-1) s.data.toList=Zcf (Zfk s q) (s.data.toList.drop q))) (fun i _=>s.size - (intOf i).toNat)
 case atStart=>exact ⟨0,Nat.zero_le _,rfl,rfl,rfl⟩
 case round=>
  obtain ⟨q,hq,rfl,rfl,hC⟩:=hrel
  by_cases hlt:q<s.size
  ·have HD:Hid (s.data.toList.drop q=s[q]::s.data.toList.drop (q+1)):=List.drop_eq_getElem_cons (by rw [Array.length_toList];exact hlt)
   have HP':Hid (Zfk s (q+1)=((s[q]'hlt).toNat:Int)):=by unfold Zfk;rw [dif_pos ⟨Nat.succ_pos q,hlt⟩];rfl
   have b1:(0:Int)≤q:=by omega
   have b2:(q:Int)<(s.size:Int):=by omega
   by_cases h0:q=0
   ·subst h0
    have HP:Hid (Zfk s 0 = -1):=rfl
    go_wp2_with (go_at_call 93;refine (ZiD s 0 hlt _).mono ?_;rintro e w' ⟨rfl,rfl⟩)
    all_goals (try simp only [beq_iff_eq,beq_eq_false_iff_ne,ne_eq] at *)
    all_goals first
     | (exfalso;omega)
     | (go_ret;refine ⟨Zbj ?_,HB.out⟩;rw [HSP.out,hC.out,HD.out,Ze8 (by rw [HP.out];omega)];rfl)
     | (go_roundw;(case rel=>(refine ⟨1,by omega,rfl,by trivial,?_⟩;rw [hC.out,HD.out,Zg8 (by rw [HP.out];omega)];exact congrArg (fun p=>Zcf p (s.data.toList.drop (0+1))) HP'.out.symm));(case measure=>(simp [intOf];omega)))
   ·have HP:Hid (Zfk s q=((s[q - 1]'(by omega)).toNat:Int)):=by unfold Zfk;rw [dif_pos ⟨by omega,by omega⟩];exact Lib.hid rfl
    have hq1:0<q:=by omega
    have b3:(1:Int)≤q:=by omega
    clear h0
    go_wp2_with (go_at_call 93;refine (ZiD s q hlt _).mono ?_;rintro e w' ⟨rfl,rfl⟩)
    all_goals (try simp only [beq_iff_eq,beq_eq_false_iff_ne,ne_eq] at *)
    all_goals first
     | (exfalso;omega)
     | (go_ret;refine ⟨Zbj ?_,HB.out⟩;rw [HSP.out,hC.out,HD.out,Ze8 (by rw [HP.out];omega)];rfl)
     | (go_roundw;(case rel=>(refine ⟨q+1,by omega,by go_num,by trivial,?_⟩;rw [hC.out,HD.out,Zg8 (by rw [HP.out];omega)];exact congrArg (fun p=>Zcf p (s.data.toList.drop (q+1))) HP'.out.symm));(case measure=>(simp [intOf];omega)))
  ·obtain rfl:q=s.size:=by omega
   have hz:s.data.toList.drop s.size = []:=List.drop_eq_nil_of_le (by rw [Array.length_toList];exact Nat.le_refl _)
   have HZ:Hid (Zcf (-1) s.data.toList=true):=by rw [hC.out,hz];exact rfl
   rw [HZ.out,Bool.true_and] at HSP
   clear hz hC HZ
   go_wp2_with fail
   refine (ZlY s _ (by omega)).mono ?_
   rintro e w2 ⟨v,rfl,hown,hb2⟩
   have hps:Hid (∀ p ∈ Zeq s.data.toList,p.size≤100):=Lib.hid (by
    have hall:=Zjo s (fun l=>decide (l.length≤100))
    have h5:(Lib.splitB ⟨#[47]⟩ 0 (Lib.countB s ⟨#[47]⟩) s).all (fun p=>decide (p.data.toList.length≤100))=true:=by
     rw [List.all_eq_true]
     intro p hp
     have:=Ze9 ⟨#[47]⟩ _ s p hp
     rw [Array.length_toList]
     exact decide_eq_true (Nat.le_trans this h4)
    rw [h5,List.all_eq_true] at hall
    intro p hp
    have:=of_decide_eq_true (hall p hp)
    rw [Array.length_toList] at this
    exact this)
   generalize Zeq s.data.toList=ps at *
   obtain ⟨A,c,rfl,hS,_⟩:=hown.sl
   have c1:w2.cell? ⟨w.heap.size,0,none⟩=some (.int .i64 sp):=re1 hb2 (ZbJ c0_0) c0_0
   have HB2:=Lib.hid (Below.tr HB.out hb2)
   have HS:=Lib.hid hS
   have hle:=hS.le
   have hle2:(ps.length:Int)≤9223372036854775807:=by omega
   clear hown hb2 hS c0_0 c0_1 HF HB
   go_wp2_with fail
   go_loopw [6] (fun i wr=>∃ q:Nat,q≤ps.length∧i = .int .i64 q∧Below w2.heap.size w2 wr∧Hid (ps.all (fun p=>Zdh p.data.toList)=(ps.drop q).all (fun p=>Zdh p.data.toList))) (fun i _=>ps.length - (intOf i).toNat)
   case atStart=>exact ⟨0,by omega,rfl,Below.refl _ _,rfl⟩
   case round=>
    obtain ⟨q,hq,rfl,hbw,hA⟩:=hrel
    have HW:=Lib.hid hbw
    clear hbw
    by_cases hlt:q<ps.length
    ·have b1:(0:Int)≤q:=by omega
     have b2:(q:Int)<(ps.length:Int):=by omega
     obtain ⟨b,off,x,cs,hA,hbl,hx,hd,hR,hc⟩:=(HS.out.mono HW.out).elem hlt
     obtain rfl:=hA
     have d0:wr.cell? ⟨b,off+q,none⟩=some (.string x):=by subst hR;simpa using hc 0 _ rfl
     have HD:=Lib.hid hd
     have HX:=Lib.hid hx
     clear hx hd hR hc
     have hxs:=hps.out x (List.mem_of_getElem? HX.out)
     by_cases hx0:x.size=0
     ·have hx1:x.toList = []:=by rw [ByteArray.toList_eq];exact List.eq_nil_of_length_eq_zero (by rw [Array.length_toList];exact hx0)
      have HP:Hid (Zdh x.data.toList=false):=Lib.hid (by rw [← ByteArray.toList_eq,hx1];rfl)
      clear hx0
      go_wp2_with fail
      go_quiet (fail)
      go_wp2
      go_ret
      exact ⟨Zbj (by rw [HSP.out,hA.out,HD.out,List.all_cons,HP.out];rfl),Below.tr HB2.out (Below.dn HW.out _)⟩
     ·have hx1:¬ x.toList = []:=fun e=>by rw [ByteArray.toList_eq] at e;exact hx0 (by have:=congrArg List.length e;rw [Array.length_toList] at this;exact this)
      have hx2:0<x.size:=by omega
      have hx3:(0:Int)≤(x.size:Int) - 1:=by omega
      have hx4:(0:Int)<(x.size:Int):=by omega
      have hx5:(1:Int)≤(x.size:Int):=by omega
      have hx9:(x.size:Int) - 1<(x.size:Int):=by omega
      have hx6:x.toList.isEmpty=false:=by rw [List.isEmpty_eq_false_iff];exact hx1
      have hx7:(x.toList == [])=false:=beq_eq_false_iff_ne.2 hx1
      have hx8:decide (x.toList = [])=false:=decide_eq_false hx1
      have HP:=Lib.hid (Zki x hx2)
      clear hx0
      by_cases hf:(x[0].toNat:Int)=32
      ·have HP2:Hid (Zdh x.data.toList=false):=Lib.hid (by rw [HP.out,hf];rfl)
       go_wp2_with fail
       go_quiet (fail)
       go_wp2
       go_ret
       exact ⟨Zbj (by rw [HSP.out,hA.out,HD.out,List.all_cons,HP2.out];rfl),Below.tr HB2.out (Below.dn HW.out _)⟩
      ·by_cases hl:((x[x.size - 1]'(by omega)).toNat:Int)=32
       ·have HP2:Hid (Zdh x.data.toList=false):=Lib.hid (by rw [HP.out,hl];simp)
        have hf:((x[0].toNat:Int) == 32)=false:=beq_eq_false_iff_ne.2 hf
        go_wp2_with fail
        go_quiet (fail)
        go_wp2
        go_ret
        exact ⟨Zbj (by rw [HSP.out,hA.out,HD.out,List.all_cons,HP2.out];rfl),Below.tr HB2.out (Below.dn HW.out _)⟩
       ·have HP2:Hid (Zdh x.data.toList=true):=Lib.hid (by rw [HP.out,beq_eq_false_iff_ne.2 hf,beq_eq_false_iff_ne.2 hl];rfl)
        have hf:((x[0].toNat:Int) == 32)=false:=beq_eq_false_iff_ne.2 hf
        have hl:(((x[x.size - 1]'(by omega)).toNat:Int) == 32)=false:=beq_eq_false_iff_ne.2 hl
        go_wp2_with fail
        go_quiet (fail)
        go_wp2
        go_roundw
        case rel=>exact ⟨q+1,by omega,by go_num,Below.dn HW.out _,Lib.hid (by rw [hA.out,HD.out,List.all_cons,HP2.out];rfl)⟩
        case measure=>simp [intOf];omega
    ·obtain rfl:q=ps.length:=by omega
     have hz:ps.all (fun p=>Zdh p.data.toList)=true:=by
      rw [hA.out,List.drop_eq_nil_of_le (Nat.le_refl _)];rfl
     rw [hz,Bool.true_and] at HSP
     have c2:wr.cell? ⟨w.heap.size,0,none⟩=some (.int .i64 sp):=re1 HW.out (ZbJ c1) c1
     clear hz hA c1 hps
     have hs0:(0:Int)<s.size:=by omega
     go_wp2_with (go_at_call 92;refine (ZiU s _ (by omega)).mono ?_;rintro e w5 ⟨rfl,hb5⟩;have c3:=re1 hb5 (ZbJ c2) c2)
     all_goals
      go_ret
      refine ⟨Zbj ?_,?_⟩
      ·rw [HSP.out]
       simp only [beq_iff_eq,beq_eq_false_iff_ne,ne_eq] at *
       first
        | (rw [ZgA (by omega)];rfl)
        | (rw [ZgB (by omega) (by omega)];rfl)
        | (rw [Zfa (by omega) (by omega)];simp_all;done)
        | (rw [Zfa (by omega) (by omega)];simp_all;rfl)
      ·first | exact Below.tr (Below.tr HB2.out HW.out) (by assumption) | exact Below.tr HB2.out HW.out
end Go.Proofs.YtmgfammllddkhaaGreatDoor
set_option linter.unusedVariables false
namespace Go.Proofs.YtmgfammllddkhaaGreatDoor
open VL Go.RowKit
def ZnA (t:Title):Option Bool:=some t.valid
theorem Zom (t:Title) (r:Bool) (h:ZnA t=some r):Zo Tryz.prog 57 [t.pv] (.bool r):=by
 cases h
 exact ZaF (vals:=[.agg #[.int .i64 t.space,.string t.name]]) (by kernel_rfl) rfl rfl (fun x=>.bool _) fun w _=>Zlm t w
def Zi6 (t:Title):Option Bool:=some t.valid
theorem ZkT (t:Title) (r:Bool) (h:Zi6 t=some r):Zo Tryz.prog 157 [t.pv] (.bool r):=by
 cases h
 exact ZaF (vals:=[.agg #[.int .i64 t.space,.string t.name]]) (by kernel_rfl) rfl rfl (fun x=>.bool _) fun w hw=>ZqL t w hw.1
def strings_Index (s c:ByteArray):Option Int:=if s.size<4294967281 then some (Lib.index s.data.toList c.data.toList) else none
theorem Zd6 (s c:ByteArray) (r:Int) (h:strings_Index s c=some r):Zo Tryz.prog 58 [.str s,.str c] (.int .i64 r):=by
 unfold strings_Index at h
 split at h
 ·rename_i hc
  cases h
  exact ZaF (vals:=[.string s,.string c]) (by kernel_rfl) rfl rfl (fun x=>.int _ _) fun w hw=>by
   obtain ⟨m,hm⟩:=hw.1
   exact (Tryz.strings_Index s c m w hc hm).mono fun e w' ⟨e1,e2⟩=>⟨e1,e2 ▸ Below.refl _ _⟩
 ·cases h
def strings_Contains (s c:ByteArray):Option Bool:=if s.size<4294967281 then some (Lib.contains s.data.toList c.data.toList) else none
theorem ZbR (s c:ByteArray) (r:Bool) (h:strings_Contains s c=some r):Zo Tryz.prog 24 [.str s,.str c] (.bool r):=by
 unfold strings_Contains at h
 split at h
 ·rename_i hc
  cases h
  exact ZaF (vals:=[.string s,.string c]) (by kernel_rfl) rfl rfl (fun x=>.bool _) fun w hw=>by
   obtain ⟨m,hm⟩:=hw.1
   exact (Tryz.strings_Contains s c m w hc hm).mono fun e w' ⟨e1,e2⟩=>⟨e1,e2 ▸ Below.refl _ _⟩
 ·cases h
def strings_Cut (s c:ByteArray):Option (ByteArray×ByteArray×Bool):=if s.size<4294967281 then some (⟨(Lib.cut s.data.toList c.data.toList).1.toArray⟩,⟨(Lib.cut s.data.toList c.data.toList).2.1.toArray⟩,(Lib.cut s.data.toList c.data.toList).2.2) else none
theorem Zvr {x:Ctx} (a b:ByteArray) (c:Bool):Rep x (.tup [.str a,.str b,.bool c]) (.tuple #[.string a,.string b,.bool c]):=.tup _ _ rfl fun i p v hp hv=>by
 match i,hp,hv with
 | 0,hp,hv=>injection hp with hp;injection hv with hv;subst hp hv;exact .str _
 | 1,hp,hv=>injection hp with hp;injection hv with hv;subst hp hv;exact .str _
 | 2,hp,hv=>injection hp with hp;injection hv with hv;subst hp hv;exact .bool _
 | i+3,hp,_=>simp at hp
theorem ZgV (s c:ByteArray) (r:ByteArray×ByteArray×Bool) (h:strings_Cut s c=some r):Zo Tryz.prog 88 [.str s,.str c] (.tup [.str r.1,.str r.2.1,.bool r.2.2]):=by
 unfold strings_Cut at h
 split at h
 ·rename_i hc
  cases h
  exact ZaF (vals:=[.string s,.string c]) (by kernel_rfl) rfl rfl (fun x=>Zvr _ _ _) fun w hw=>by
   obtain ⟨m,hm⟩:=hw.1
   refine (Tryz.strings_Cut s c m w hc hm).mono ?_
   rintro e w' ⟨rfl,n,rfl⟩
   exact ⟨rfl,Below.dn (Below.refl _ _) n⟩
 ·cases h
def strings_Split (s c:ByteArray):Option (List ByteArray):=if (s.size<4294967281∧1≤c.size)∧Lib.countB s c≤1000000 then some (Lib.splitB c 0 (Lib.countB s c) s) else none
theorem Zi7 (s c:ByteArray) (r:List ByteArray) (h:strings_Split s c=some r):ContractN Tryz.prog 197 [.str s,.str c] (.row 9 1 false (List.map csS r)):=by
 unfold strings_Split at h
 split at h
 ·rename_i hc
  injection h with h
  have hlen:r.length=Lib.countB s c+1:=by rw [← h];exact Lib.splitB_all c hc.1.2 0 _ s rfl
  refine ZkR (α:=ByteArray) (vals:=[.string s,.string c]) (enc:=fun x=>[.string x]) (by kernel_rfl) rfl (fun x=>rfl) (fun S w x cs h=>h) (fun x=>rfl) fun w hw=>?_
  obtain ⟨m,hm⟩:=hw.1
  refine (Tryz.strings_Split s c m w hc.1.1 hm hc.1.2).mono ?_
  rintro e w' ⟨rfl,rfl⟩
  rw [h,← hlen]
  refine ⟨_,rfl,OwnL.of_row ⟨by simp,.inr ⟨w.heap.size,r.length,_,rfl,Nat.le_refl _,heap_alloc_new w _,Nat.le_refl _,?_,by simp,?_⟩⟩,Below.al (Below.refl _ _) _⟩
  ·unfold maxLen;omega
  ·rw [Nat.mul_one,List.take_of_length_le (by simp)]
 ·cases h
def strings_Join (L:List ByteArray) (s:ByteArray):Option ByteArray:=
 if (0<L.length∧L.length≤140737488355328)∧(Lib.join (L.map (·.data.toList)) s.data.toList).length≤140737488355328 then some ⟨(Lib.join (L.map (·.data.toList)) s.data.toList).toArray⟩ else none
theorem ZjI (L:List ByteArray) (s:ByteArray) (r:ByteArray) (h:strings_Join L s=some r):Zo Tryz.prog 199 [.sl (List.map csS L),.str s] (.str r):=by
 unfold strings_Join at h
 split at h
 ·rename_i hc
  cases h
  refine Zew (by kernel_rfl) rfl (fun x=>.str _) fun x vs hp _=>?_
  obtain ⟨v,w,rfl,h1,h2⟩:=args2 hp
  obtain rfl:=Ztm h2
  obtain ⟨A,n,c,rfl,hS⟩:=ZmA hp.flt h1
  obtain ⟨q1,q2,q3,q4⟩:=hS
  obtain ⟨b,off,css,hA,_,hlt,hx⟩:=q4 (by omega)
  subst hA
  subst q1
  refine Tryz.strings_Join b off c L s x.W (fun j y hy=>?_) hlt hc.1.2 q2 hc.2
  obtain ⟨p1,p2⟩:=hx j y hy
  have e1:css j = [.string y]:=p1
  have:=p2 0 (.string y) (by rw [e1];rfl)
  rw [show off+j=off+j * Enc.k ByteArray+0 by show off+j=off+j * 1+0;omega]
  exact this
 ·cases h
def strings_Repeat (s:ByteArray) (c:Int):Option ByteArray:=if 0≤c∧c≤9223372036854775807∧s.size * c.toNat≤140737488355328 then some ⟨(Lib.repeatL s.data.toList c.toNat).toArray⟩ else none
theorem Zdm (s:ByteArray) (c:Int) (r:ByteArray) (h:strings_Repeat s c=some r):Zo Tryz.prog 113 [.str s,.int .i64 c] (.str r):=by
 unfold strings_Repeat at h
 split at h
 ·rename_i hc
  cases h
  obtain ⟨n,rfl⟩:∃ n:Nat,c=n:=⟨c.toNat,by omega⟩
  exact ZaF (vals:=[.string s,.int .i64 n]) (by kernel_rfl) rfl rfl (fun x=>.str _) fun w hw=>Tryz.strings_Repeat s n w (by omega) (by simpa using hc.2.2)
 ·cases h
def Zeo (s:ByteArray):Option (Int×ByteArray×Bool):=if s.size<4294967281 then (match ZbF s.data.toList with | some q=>some (q.1,⟨q.2.toArray⟩,true) | none=>some (0,⟨#[]⟩,false)) else none
theorem Zvs {x:Ctx} (a:Int) (b:ByteArray) (c:Bool):Rep x (.tup [.int .i64 a,.str b,.bool c]) (.tuple #[.int .i64 a,.string b,.bool c]):=.tup _ _ rfl fun i p v hp hv=>by
 match i,hp,hv with
 | 0,hp,hv=>injection hp with hp;injection hv with hv;subst hp hv;exact .int _ _
 | 1,hp,hv=>injection hp with hp;injection hv with hv;subst hp hv;exact .str _
 | 2,hp,hv=>injection hp with hp;injection hv with hv;subst hp hv;exact .bool _
 | i+3,hp,_=>simp at hp
theorem ZjJ (s:ByteArray) (r:Int×ByteArray×Bool) (h:Zeo s=some r):Zo Tryz.prog 155 [.str s] (.tup [.int .i64 r.1,.str r.2.1,.bool r.2.2]):=by
 unfold Zeo at h
 split at h
 ·rename_i hc
  have hv:Zht s.data.toList = .tuple #[.int .i64 r.1,.string r.2.1,.bool r.2.2]:=by
   unfold Zht
   cases hp:ZbF s.data.toList with
   | none=>rw [hp] at h;injection h with h;subst h;rfl
   | some q=>rw [hp] at h;injection h with h;subst h;rfl
  exact ZaF (vals:=[.string s]) (by kernel_rfl) rfl rfl (fun x=>Zvs _ _ _) fun w hw=>by
   rw [← hv]
   exact Zhu s w hc hw.1
 ·cases h
def Zbe (s o n:ByteArray):Option ByteArray:=if (s.size<4294967281∧1≤o.size)∧s.size+Lib.countB s o * n.size≤140737488355328 then some ⟨(Lib.replaceAll s.data.toList o.data.toList n.data.toList).toArray⟩ else none
theorem Zfr (s o n r:ByteArray) (h:Zbe s o n=some r):Zo Tryz.prog 153 [.str s,.str o,.str n] (.str r):=by
 unfold Zbe at h
 split at h
 ·rename_i hc
  injection h with h
  subst h
  exact ZaF (vals:=[.string s,.string o,.string n]) (by kernel_rfl) rfl rfl (fun x=>.str _) fun w hw=>by
   obtain ⟨m,hm⟩:=hw.1
   exact (Tryz.strings_ReplaceAll s o n m w hc.1.1 hm hc.1.2 hc.2).mono fun e w' h=>h
 ·cases h
end Go.Proofs.YtmgfammllddkhaaGreatDoor
namespace Go.Proofs.YtmgfammllddkhaaGreatDoor
namespace VL
section
variable {P:Program} [WInv P] {α β:Type} {cs:List Code} {Q:Ex→FS→Prop} {s:FS} {tm:List (Nat×PV)} {ob:List (Nat×Option (Gen×VObj))} {ng:Nat}
theorem rg {draw:Bool} {id:Nat} {l:List Oper} {q:Prop} (k:q) (h:q→GoL P l.toArray draw 0 l [] s fun s'=>PWs P cs Q ⟨s'.tm,s'.ob,s'.ng+1⟩:=by
 (intro k)
 (refine Zq ?_)
 (exact k)):PWs P (.region id l.toArray draw::cs) Q s:=Za (h k)
theorem bl {id:Nat} {c:Code} {q:Prop} (k:q) (h:q→PWs P [c] (Zmk id (PWs P cs Q) Q) s:=by
 (intro k)
 (refine Zq ?_)
 (exact k)):PWs P (.block id c::cs) Q s:=Zai (h k)
theorem cS {A B:Option β} {r:β} {c:Operand} {x y:Code} {t:Bool} {q1 q2:Prop} (hF:(if t=true then A else B)=some r) (hc:evL tm c = .bool t) (k1:A=some r→q1) (k2:B=some r→q2)
  (h1:q1→PWs P (x::cs) Q (mkS tm ob ng):=by
 (intro k)
 (refine Zq ?_)
 (exact k)) (h2:q2→PWs P (y::cs) Q (mkS tm ob ng):=by
 (intro k)
 (refine Zq ?_)
 (exact k)):PWs P (.cond c x y::cs) Q (mkS tm ob ng):=
 ZoU hc (fun h=>h1 (k1 (ifT h hF))) fun h=>h2 (k2 (ifF h hF))
theorem kS (t:Nat) {A B:Option β} {r:β} {ops:Array Oper} {draw:Bool} {i:Nat} {L:List Oper} {acc:List (List Nat×List Nat)} {K:FS→Prop} {b:Bool} {q1 q2:Prop} (hF:(if b=true then A else B)=some r) (hx:look tm t = .bool b) (k1:A=some r→q1) (k2:B=some r→q2)
  (h1:q1→GoL P ops draw i L acc (mkS ((t,.bool true)::tm) ob ng) K:=by
 (intro k)
 (refine Zq ?_)
 (exact k)) (h2:q2→GoL P ops draw i L acc (mkS ((t,.bool false)::tm) ob ng) K:=by
 (intro k)
 (refine Zq ?_)
 (exact k)):GoL P ops draw i L acc (mkS tm ob ng) K:=
 Zt5 t hx (fun h=>h1 (k1 (ifT h hF))) fun h=>h2 (k2 (ifF h hF))
theorem cF {F:Option β} (R:β→PV) {f:FuncId} {fn:Func} {c:Code} {args:List PV} {r:β} (hF:F=some r) (hmix:P.follows .mixedOrders=true) (hf:P.funcs[f]? = some fn)
  (h:∀ r,F=some r→PWs P [c] (Zt1 P fn.results.toList (R r)) (mkS (Zc3 0 args) [] 1)) (hg:isGo P f=true:=by kernel_rfl) (hb:fn.body=some c:=by exact rfl) (hok:(decide (args.length≤fn.ntmps)&&ZaN fn.ntmps c)=true:=by kernel_rfl):Zo P f args (R r):=
 ZnV hF hmix hf hg hb hok h
omit [WInv P] in
theorem rQ {res:PV} {rs:List ResultVar} {ps qs:List PV} {us:List (Nat×Option (Gen×VObj))} (h1:Zcd P s rs=some ps:=by exact rfl) (h2:Zfj s.ob ps=some (qs,us):=by exact rfl) (h3:Zce qs=res:=by exact rfl):Zt1 P rs res .ret s:=Zej h1 h2 h3
def sg (σ:List (Nat×Nat×Nat)):List (Gen×Gen):=σ.map fun q=>((1,q.1),q.2)
theorem sR (σ:List (Nat×Nat×Nat)) {tm':List (Nat×PV)} {ob':List (Nat×Option (Gen×VObj))} {ng':Nat} (h1:ZqX (sg σ) tm tm':=by
 (repeat (refine ⟨rfl,?_⟩))
 (exact trivial)) (h2:Znc (sg σ) ob ob':=by
 (repeat (refine ⟨⟨rfl,rfl⟩,?_⟩))
 (exact trivial)) (h3:(decide (0<ng')&&(sg σ).all fun q=>decide (q.1.1<ng'))=true:=by exact rfl):Shift (mkS tm ob ng) (mkS tm' ob' ng'):=
 ZeV (sg σ) h1 h2 h3
theorem jn {St:α→Nat→FS} {J:α→Prop} (a:α) (h1:J a) (h3:Shift s (St a 2)):Zpd St J Q .normal s:=Zc8 a 2 h1 h3
theorem rn {St:α→Nat→FS} {J:α→Prop} {m:α→Nat} {a:α} (a':α) (h1:J a') (h3:Shift s (St a' 2)) (h2:m a'<m a:=by exact Nat.lt_succ_self _):Zml St J m a Q .normal s:=Zaf a' 2 h1 h2 h3
theorem jL {K:α→Option β} {f:(α→Option β)→Option β} {r:β} {c c2:Code} {q1:(α→Option β)→Prop} {q2:α→Prop} (hF:letk K f=some r) (St:α→FS) (h1:∀ k,f k=some r→q1 k) (h2:∀ x,K x=some r→q2 x)
  (g1:∀ k:α→Option β,q1 k→PWs P [c] (Zpd (fun a _=>St a) (fun x=>k x=some r) Q) s:=by
 (intro k h)
 (refine Zq ?_)
 (exact h)) (g2:∀ x,q2 x→PWs P (c2::cs) Q (St x):=by
 (intro x h)
 (try dsimp only)
 (refine Zq ?_)
 (exact h)):PWs P (c::c2::cs) Q s:=
 Zb3 (fun a _=>St a) (fun x=>K x=some r) (g1 K (h1 K hF)) fun a _ hJ=>g2 a (h2 a hJ)
end
end VL
end Go.Proofs.YtmgfammllddkhaaGreatDoor
