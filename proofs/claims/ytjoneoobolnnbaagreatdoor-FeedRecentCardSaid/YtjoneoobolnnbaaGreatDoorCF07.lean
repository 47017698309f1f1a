/- Titles: which bytes names may have; which titles are valid. | The reference's small functions on titles: an index, letters without their case, the words ahead of a colon. | Names of users and groups. -/
import Derived.Test.YtjoneoobolnnbaaGreatDoorCF06
import Derived.Test.YtjoneoobolnnbaaGreatDoorCF02
import Derived.Lib.IndexEntry
namespace Go.Proofs.YtjoneoobolnnbaaGreatDoor
open Go.RowKit
def Zf2:List UInt8:=[60,62,91,93,123,125,124,35,95]
def Zb4:Int→List UInt8→Bool
 | _,[]=>true
 | p,c::r=>if (c.toNat:Int)<32∨(c.toNat:Int)=127∨0≤Lib.indexByte Zf2 c∨((c.toNat:Int)=32∧p=32) then false else Zb4 c.toNat r
theorem Zfj {p:Int} {c:UInt8} {r:List UInt8} (h:(c.toNat:Int)<32∨(c.toNat:Int)=127∨0≤Lib.indexByte Zf2 c∨((c.toNat:Int)=32∧p=32)):Zb4 p (c::r)=false:=by
 simp only [Zb4,if_pos h]
theorem ZhG {p:Int} {c:UInt8} {r:List UInt8} (h:¬((c.toNat:Int)<32∨(c.toNat:Int)=127∨0≤Lib.indexByte Zf2 c∨((c.toNat:Int)=32∧p=32))):Zb4 p (c::r)=Zb4 c.toNat r:=by
 simp only [Zb4,if_neg h]
def Zfy (s:ByteArray) (q:Nat):Int:=if h:0<q∧q - 1<s.size then ((s[q - 1]'h.2).toNat:Int) else -1
set_option maxRecDepth 100000 in
set_option maxHeartbeats 1000000 in
theorem ZmP (s:ByteArray) (w:World) (hs:s.size≤9223372036854775807):Calls Tryz.prog 99 #[.string s] w fun e w'=>e = .returned (.bool (Zb4 (-1) s.data.toList))∧w=w':=by
 go_enter Tryz.func99,Tryz.ntmps99
 go_wp2
 go_loop [3,4] (fun i _=>∃ q:Nat,q≤s.size∧i = .int .i64 q∧Hid (Zb4 (-1) s.data.toList=Zb4 (Zfy s q) (s.data.toList.drop q))) (fun i _=>s.size - (intOf i).toNat)
 case atStart=>exact ⟨0,Nat.zero_le _,rfl,rfl⟩
 case round=>
  obtain ⟨q,hq,rfl,hC⟩:=hrel
  by_cases hlt:q<s.size
  ·have HD:Hid (s.data.toList.drop q=s[q]::s.data.toList.drop (q+1)):=List.drop_eq_getElem_cons (by rw [Array.length_toList];exact hlt)
   have HP':Hid (Zfy s (q+1)=((s[q]'hlt).toNat:Int)):=by unfold Zfy;rw [dif_pos ⟨Nat.succ_pos q,hlt⟩];rfl
   by_cases h0:q=0
   ·subst h0
    have HP:Hid (Zfy s 0 = -1):=rfl
    go_wp2_with (go_at_call 153;refine (Tryz.strings_IndexByte _ _ _).mono ?_;rintro e w' ⟨rfl,rfl⟩)
    all_goals (try simp only [beq_iff_eq,beq_eq_false_iff_ne,ne_eq] at *)
    all_goals first
     | (exfalso;omega)
     | (go_ret;refine ⟨ZaI ?_,rfl⟩;rw [hC.out,HD.out];refine (Zfj ?_).symm;rw [HP.out];unfold Zf2;omega)
     | (go_round;(case rel=>(refine ⟨1,by omega,rfl,?_⟩;rw [hC.out,HD.out,ZhG (by rw [HP.out];unfold Zf2;omega)];exact congrArg (fun p=>Zb4 p (s.data.toList.drop (0+1))) HP'.out.symm));(case measure=>(simp [intOf];omega)))
   ·have HP:Hid (Zfy s q=((s[q - 1]'(by omega)).toNat:Int)):=by unfold Zfy;rw [dif_pos ⟨by omega,by omega⟩];exact Lib.hid rfl
    have h1:0<q:=by omega
    clear h0
    go_wp2_with (go_at_call 153;refine (Tryz.strings_IndexByte _ _ _).mono ?_;rintro e w' ⟨rfl,rfl⟩)
    all_goals (try simp only [beq_iff_eq,beq_eq_false_iff_ne,ne_eq] at *)
    all_goals first
     | (exfalso;omega)
     | (go_ret;refine ⟨ZaI ?_,rfl⟩;rw [hC.out,HD.out];refine (Zfj ?_).symm;rw [HP.out];unfold Zf2;omega)
     | (go_round;(case rel=>(refine ⟨q+1,by omega,by go_num,?_⟩;rw [hC.out,HD.out,ZhG (by rw [HP.out];unfold Zf2;omega)];exact congrArg (fun p=>Zb4 p (s.data.toList.drop (q+1))) HP'.out.symm));(case measure=>(simp [intOf];omega)))
  ·obtain rfl:q=s.size:=by omega
   have hz:s.data.toList.drop s.size = []:=List.drop_eq_nil_of_le (by rw [Array.length_toList];exact Nat.le_refl _)
   have HZ:Hid (Zb4 (-1) s.data.toList=true):=by rw [hC.out,hz];exact rfl
   clear hz hC
   go_wp2
   go_ret
   exact ⟨ZaI HZ.out.symm,rfl⟩
theorem countB_le (s:ByteArray):Lib.countB s ⟨#[47]⟩≤s.size:=by
 have h:=Lib.countB_mul_le ⟨#[47]⟩ (by decide) s.size s (Nat.le_refl _)
 have e:(⟨#[47]⟩:ByteArray).size=1:=rfl
 rw [e] at h
 omega
theorem Zta:∀ (l:List UInt8) (h:0<l.length),l.headD 0=l[0]
 | _::_,_=>rfl
theorem Zrl (s:ByteArray) (h:0<s.size):s.data.toList.headD 0=s[0]:=
 Zta _ (by rw [Array.length_toList];exact h)
theorem ZnW (s:ByteArray) (w:World) (hs:s.size<4294967281) (hG:Glob w) (h:ZbX s.data.toList=none):Calls Tryz.prog 101 #[.string s] w fun e w'=>e = .returned (.tuple #[.int .i64 0,.string ⟨#[]⟩,.bool false])∧Below w.heap.size w w':=
 (Zh4 s w hs hG).mono fun _ _ ⟨he,hb⟩=>⟨he.trans (by unfold Zh3;rw [h]),hb⟩
theorem ZnX (s:ByteArray) (w:World) (hs:s.size<4294967281) (hG:Glob w) {n:Int} {r:List UInt8} (h:ZbX s.data.toList=some (n,r)):Calls Tryz.prog 101 #[.string s] w fun e w'=>e = .returned (.tuple #[.int .i64 n,.string ⟨r.toArray⟩,.bool true])∧Below w.heap.size w w':=
 (Zh4 s w hs hG).mono fun _ _ ⟨he,hb⟩=>⟨he.trans (by unfold Zh3;rw [h]),hb⟩
theorem Zg7 (sep:ByteArray):∀ (k:Nat) (s p:ByteArray),p ∈ Lib.splitB sep 0 k s→p.size≤s.size
 | 0,s,p,h=>by
   rw [Lib.splitB_zero] at h
   simp at h
   rw [h];exact Nat.le_refl _
 | k+1,s,p,h=>by
   rcases Lib.index_spec s.data.toList sep.data.toList with ⟨h1,_⟩ | ⟨i,h1,_⟩
   ·rw [Lib.splitB_miss sep 0 (k+1) s h1] at h
    simp at h
    rw [h];exact Nat.le_refl _
   ·rw [Lib.splitB_hit sep 0 k s i h1] at h
    rcases List.mem_cons.1 h with h | h
    ·rw [h,ByteArray.size_extract];omega
    ·have:=Zg7 sep k _ p h
     rw [ByteArray.size_extract] at this
     omega
def Zdk (p:List UInt8):Bool:=decide (p≠[])&&decide (p[0]?≠some 32)&&decide (p.getLast?≠some 32)
theorem Zv7 (a:UInt8):decide (some a≠some 32) = !((a.toNat:Int) == 32):=by
 by_cases h:a=32
 ·subst h;rfl
 ·have h2:a.toNat≠32:=fun e=>h (UInt8.toNat_inj.1 e)
  have h3:((a.toNat:Int) == 32)=false:=by rw [beq_eq_false_iff_ne];omega
  rw [h3];simp [h]
theorem ZkU (x:ByteArray) (h:0<x.size):Zdk x.data.toList = !((x[0].toNat:Int) == 32||((x[x.size - 1]'(by omega)).toNat:Int) == 32):=by
 have hl:x.data.toList.length=x.size:=Array.length_toList
 have h1:x.data.toList≠[]:=fun e=>by rw [e] at hl;simp at hl;omega
 have h2:x.data.toList[0]? = some x[0]:=List.getElem?_eq_getElem (by omega)
 have h3:x.data.toList.getLast? = some (x[x.size - 1]'(by omega)):=by
  rw [List.getLast?_eq_getElem?,hl]
  exact List.getElem?_eq_getElem (by omega)
 unfold Zdk
 rw [h2,h3,Zv7,Zv7]
 simp [h1]
def Zf3 (c:Int):Bool:=decide (c≠58) && !(decide (97≤c)&&decide (c≤122))
theorem Zg8 {c:Int} (h:c=58):Zf3 c=false:=by subst h;rfl
theorem Zg9 {c:Int} (h:97≤c) (h':c≤122):Zf3 c=false:=by simp [Zf3,h,h']
theorem Zfk {c:Int} (h:c≠58) (h':c<97∨122<c):Zf3 c=true:=by
 unfold Zf3
 have:¬ (97≤c∧c≤122):=by omega
 simp [h];omega
def Title.valid (t:Title):Bool:=
 decide (0≤t.space)&&decide (t.space<6)&&decide (1≤t.name.size)&&decide (t.name.size≤100)&&Zb4 (-1) t.name.data.toList &&
 (Lib.splitB ⟨#[47]⟩ 0 (Lib.countB t.name ⟨#[47]⟩) t.name).all (fun p=>Zdk p.data.toList) &&
 Zf3 (t.name.data.toList.headD 0).toNat &&
 (decide (t.space≠0)||decide (ZbX t.name.data.toList=none))
set_option maxRecDepth 100000 in
set_option maxHeartbeats 1000000 in
theorem ZmQ (t:Title) (w:World) (hG:Glob w):Calls Tryz.prog 54 #[.agg #[.int .i64 t.space,.string t.name]] w fun e w'=>e = .returned (.bool t.valid)∧Below w.heap.size w w':=by
 obtain ⟨m,hm⟩:=hG
 obtain ⟨sp,s⟩:=t
 by_cases h:(0≤sp∧sp<6)∧(1≤s.size∧s.size≤100)∧Zb4 (-1) s.data.toList=true
 ·obtain ⟨⟨h1,h2⟩,⟨h3,h4⟩,h5⟩:=h
  go_enter Tryz.func54,Tryz.ntmps54
  go_wp2_with (first | (go_at_call 99;refine (ZmP _ _ (by omega)).mono ?_;rintro e w' ⟨rfl,rfl⟩) | (go_at_call 100;refine (Tryz.strings_Split _ _ m _ (by omega) (by exact re1 (Below.al (Below.refl _ _) _) (Zbo hm) hm) (by decide)).mono ?_;rintro e w' ⟨rfl,rfl⟩))
  have hcl:=Lib.splitB_all ⟨#[47]⟩ (by decide) 0 _ s rfl
  have hb:Below w.heap.size w ((w.alloc (Obj.cells #[Value.int IntKind.i64 sp,Value.string s] 29)).alloc (Obj.cells (List.map Value.string (Lib.splitB { data:=#[47] } 0 (Lib.countB s { data:=#[47] }) s)).toArray 9)):=Below.al (Below.al (Below.refl _ _) _) _
  have hS:=SlR.strs (w.alloc (Obj.cells #[Value.int IntKind.i64 sp,Value.string s] 29)) 9 (n:=Lib.countB s { data:=#[47] }+1) (Lib.splitB { data:=#[47] } 0 (Lib.countB s { data:=#[47] }) s) hcl.symm (by have:=countB_le s;omega)
  have e1:(w.alloc (Obj.cells #[Value.int IntKind.i64 sp,Value.string s] 29)).heap.size=w.heap.size+1:=by simp
  rw [e1] at hS
  have c0:((w.alloc (Obj.cells #[Value.int IntKind.i64 sp,Value.string s] 29)).alloc (Obj.cells (List.map Value.string (Lib.splitB { data:=#[47] } 0 (Lib.countB s { data:=#[47] }) s)).toArray 9)).cell? ⟨w.heap.size,0,none⟩=some (.int .i64 sp):=by go_simp
  generalize (w.alloc (Obj.cells #[Value.int IntKind.i64 sp,Value.string s] 29)).alloc (Obj.cells (List.map Value.string (Lib.splitB { data:=#[47] } 0 (Lib.countB s { data:=#[47] }) s)).toArray 9)=w2 at *
  have HB:=Lib.hid hb
  clear hb e1 hcl
  have hsp:Title.valid ⟨sp,s⟩=((Lib.splitB { data:=#[47] } 0 (Lib.countB s { data:=#[47] }) s).all (fun p=>Zdk p.data.toList)&&(Zf3 (s.data.toList.headD 0).toNat &&
   (decide (sp≠0)||decide (ZbX s.data.toList=none)))):=by simp [Title.valid,h1,h2,h3,h4,h5,Bool.and_assoc]
  have splitB_sizes:=fun p h=>Nat.le_trans (Zg7 ⟨#[47]⟩ (Lib.countB s ⟨#[47]⟩) s p h) h4
  generalize Lib.countB s { data:=#[47] }=K at *
  generalize Lib.splitB { data:=#[47] } 0 K s=ps at *
  have HSP:=Lib.hid hsp
  have HK:=Lib.hid hS.1
  have hle:=hS.le
  clear hsp
  go_loopw [5,37] (fun _ i wr=>∃ q:Nat,q≤K+1∧i = .int .i64 q∧Below w2.heap.size w2 wr∧Hid (ps.all (fun p=>Zdk p.data.toList)=(ps.drop q).all (fun p=>Zdk p.data.toList))) (fun _ i _=>K+1 - (intOf i).toNat)
  case atStart=>exact ⟨0,by omega,rfl,Below.refl _ _,rfl⟩
  case round=>
   obtain ⟨q,hq,rfl,hbw,hA⟩:=hrel
   have HW:=Lib.hid hbw
   by_cases hlt:q<K+1
   ·obtain ⟨b,off,x,cs,hA0,hbl,hx,hd,hR,hc⟩:=(hS.mono hbw).elem hlt
    obtain ⟨rfl,rfl⟩:w.heap.size+1=b∧0=off:=by injection hA0 with h;injection h with h1 h2;exact ⟨h1,h2⟩
    have d0:wr.cell? ⟨w.heap.size+1,q,none⟩=some (.string x):=by subst hR;simpa using hc 0 _ rfl
    have HD:=Lib.hid hd
    have hxs:=splitB_sizes x (List.mem_of_getElem? hx)
    clear hA0 hx hd hR hc hbw hS h5 h1 h2 hbl splitB_sizes
    by_cases hx0:x.size=0
    ·have hx1:x.toList = []:=by rw [ByteArray.toList_eq];exact List.eq_nil_of_length_eq_zero (by rw [Array.length_toList];exact hx0)
     have HP:Hid (Zdk x.data.toList=false):=Lib.hid (by rw [← ByteArray.toList_eq,hx1];rfl)
     clear hx0
     go_wp2
     go_ret
     exact ⟨ZaI (by rw [HSP.out,hA.out,HD.out,List.all_cons,HP.out];rfl),Below.tr HB.out HW.out⟩
    ·have hx1:¬ x.toList = []:=fun e=>by rw [ByteArray.toList_eq] at e;exact hx0 (by have:=congrArg List.length e;rw [Array.length_toList] at this;exact this)
     have hx2:0<x.size:=by omega
     have hx3:(0:Int)≤(x.size:Int) - 1:=by omega
     have HP:=Lib.hid (ZkU x hx2)
     clear hx0
     go_wp2
     all_goals (try simp only [beq_iff_eq,beq_eq_false_iff_ne,ne_eq,List.isEmpty_iff,List.isEmpty_eq_false_iff] at *)
     all_goals first
      | (exfalso;omega)
      | (go_ret;refine ⟨ZaI ?_,Below.tr HB.out HW.out⟩;rw [HSP.out,hA.out,HD.out,List.all_cons,HP.out];simp_all;done)
      | (go_roundw;(case rel=>(refine ⟨q+1,by omega,by go_num,HW.out,?_⟩;refine Lib.hid ?_;rw [hA.out,HD.out,List.all_cons,HP.out];simp_all));(case measure=>(simp [intOf];omega)))
   ·obtain rfl:q=K+1:=by omega
    have hz:ps.all (fun p=>Zdk p.data.toList)=true:=by
     rw [hA.out,List.drop_eq_nil_of_le (by rw [← HK.out];exact Nat.le_refl _)];rfl
    rw [hz,Bool.true_and] at HSP
    have c1:wr.cell? ⟨w.heap.size,0,none⟩=some (.int .i64 sp):=re1 hbw (Zbo c0) c0
    have hm1:wr.cell? ⟨1,0,none⟩=some (.int .i64 m):=re1 (Below.tr HB.out hbw) (Zbo hm) hm
    have hg:s.data.toList.headD 0=s[0]'(by omega):=Zrl s (by omega)
    rw [hg] at HSP
    have hs0:(0:Int)<s.size:=by omega
    clear hz hbw hS h5 hA c0 hle splitB_sizes hg hm
    rcases hp:ZbX s.data.toList with _ | ⟨n,r⟩
    ·rw [hp] at HSP
     have hpr:=fun W h1 h2=>ZnW s W h1 h2 hp
     clear hp
     go_wp2_with (go_at_call 101;refine (hpr _ (by omega) ⟨m,by assumption⟩).mono ?_;rintro e w5 ⟨rfl,hb5⟩;have c2:=re1 hb5 (Zbo c1) c1)
     all_goals
      go_ret
      refine ⟨ZaI ?_,?_⟩
      ·rw [HSP.out]
       simp only [beq_iff_eq,beq_eq_false_iff_ne,ne_eq] at *
       first
        | (rw [Zg8 (by omega)];rfl)
        | (rw [Zg9 (by omega) (by omega)];rfl)
        | (rw [Zfk (by omega) (by omega)];simp_all;done)
      ·first | exact Below.tr (Below.tr HB.out HW.out) (by assumption) | exact Below.tr HB.out HW.out
    ·rw [hp] at HSP
     have hpr:=fun W h1 h2=>ZnX s W h1 h2 hp
     clear hp
     go_wp2_with (go_at_call 101;refine (hpr _ (by omega) ⟨m,by assumption⟩).mono ?_;rintro e w5 ⟨rfl,hb5⟩;have c2:=re1 hb5 (Zbo c1) c1)
     all_goals
      go_ret
      refine ⟨ZaI ?_,?_⟩
      ·rw [HSP.out]
       simp only [beq_iff_eq,beq_eq_false_iff_ne,ne_eq] at *
       first
        | (rw [Zg8 (by omega)];rfl)
        | (rw [Zg9 (by omega) (by omega)];rfl)
        | (rw [Zfk (by omega) (by omega)];simp_all;done)
      ·first | exact Below.tr (Below.tr HB.out HW.out) (by assumption) | exact Below.tr HB.out HW.out
 ·go_enter Tryz.func54,Tryz.ntmps54
  have hv:Title.valid ⟨sp,s⟩=false:=by
   cases hV:Title.valid ⟨sp,s⟩ with
   | false=>rfl
   | true=>
     simp only [Title.valid,Bool.and_eq_true,decide_eq_true_eq] at hV
     obtain ⟨⟨⟨⟨⟨⟨⟨ha,hb⟩,hc⟩,hd⟩,hcl⟩,_⟩,_⟩,_⟩:=hV
     exact absurd ⟨⟨ha,hb⟩,⟨hc,hd⟩,hcl⟩ h
  have HV:=Lib.hid hv
  clear hv
  go_wp2_with (first | (go_at_call 99;refine (ZmP _ _ (by omega)).mono ?_;rintro e w' ⟨rfl,rfl⟩) | (go_at_call 100;exfalso;have h6:(!Zb4 (-1) s.data.toList)=false:=And.right (by assumption);simp at h6;exact h ⟨⟨by omega,by omega⟩,⟨by omega,by omega⟩,h6⟩))
  all_goals
   go_ret
   exact ⟨ZaI HV.out.symm,Below.al (Below.refl _ _) _⟩
def Zwy (b:Int):Int:=if 65≤b∧b≤90 then b+32 else b
set_option maxRecDepth 100000 in
set_option maxHeartbeats 400000 in
theorem Zmv (b:Int) (h0:0≤b) (h1:b<256) (w:World):Calls Tryz.prog 219 #[.int .u8 b] w fun e w'=>e = .returned (.int .u8 (Zwy b))∧w=w':=by
 go_enter Tryz.func219,Tryz.ntmps219
 go_wp2
 all_goals
  go_ret
  refine ⟨Zl6 ?_,rfl⟩
  unfold Zwy
  first | (rw [if_pos (by omega)];done) | (rw [if_neg (by omega)];done)
theorem ZqM (c:UInt8):Zwy c.toNat=(ZgF c).toNat:=by
 unfold Zwy ZgF
 by_cases h:65≤c.toNat∧c.toNat≤90
 ·rw [if_pos (by omega),if_pos h];simp;omega
 ·rw [if_neg (by omega),if_neg h]
theorem ZvL (c:UInt8):0≤(c.toNat:Int)∧(c.toNat:Int)<256:=by have:=c.toNat_lt;omega
theorem Zmw (a b:ByteArray) (j:Nat) (hj:j+b.size≤a.size):((a.extract j (j+b.size)).toList == b.toList)=Lib.occAt a.data.toList b.data.toList j:=by
 rw [← Lib.piece_eq_occAt a b j hj,beq_toListBytes]
theorem ZvM {a b:ByteArray} {j:Nat} (hj:¬ j+b.size≤a.size) (hl:j≤a.size):Lib.occAt a.data.toList b.data.toList j=false:=by
 cases ho:Lib.occAt a.data.toList b.data.toList j with
 | false=>rfl
 | true=>
   rcases Lib.occAt_room ho with h | h
   ·rw [← Lib.size_eq,← Lib.size_eq] at h;omega
   ·have:b.size=0:=by rw [Lib.size_eq,h];rfl
    omega
set_option maxRecDepth 100000 in
set_option maxHeartbeats 1000000 in
theorem Ziz (s t:ByteArray) (w:World) (hs:s.size+t.size≤9223372036854775806):Calls Tryz.prog 118 #[.string s,.string t,.int .i64 0] w fun e w'=>e = .returned (.int .i64 (Lib.index s.data.toList t.data.toList))∧w=w':=by
 go_enter Tryz.func118,Tryz.ntmps118
 go_wp2
 go_loop [7] (fun i=>∃ q:Nat,q≤s.size+1∧i = .int .i64 q∧Hid (∀ j,j<q→Lib.occAt s.data.toList t.data.toList j=false)) (fun i=>s.size+1 - (intOf i).toNat)
 case atStart=>exact ⟨0,by omega,rfl,fun j h=>absurd h (by omega)⟩
 case round=>
  obtain ⟨q,hq,rfl,hno⟩:=hrel
  by_cases hlt:q+t.size≤s.size
  ·have b1:(0:Int)≤q:=by omega
   have b2:(q:Int)+(t.size:Int)≤(s.size:Int):=by omega
   go_wp2
   ·rename_i hocc _
    go_ret
    refine ⟨Zl6 ?_,rfl⟩
    rw [Zmw s t q hlt] at hocc
    rw [Lib.index_first (by rw [← Lib.size_eq];omega) hocc hno.out]
   ·rename_i hocc
    rw [Zmw s t q hlt] at hocc
    refine ⟨⟨q+1,by omega,by simp,fun j hj=>?_⟩,by simp [intOf];omega⟩
    by_cases hjq:j<q
    ·exact hno.out j hjq
    ·have:j=q:=by omega
     subst this;exact hocc
  ·have b2:¬ (q:Int)+(t.size:Int)≤(s.size:Int):=by omega
   have b3:(s.size:Int)<(q:Int)+(t.size:Int):=by omega
   go_wp2
   all_goals
    first
    | (exfalso;omega)
    | (go_ret
       refine ⟨Zl6 ?_,rfl⟩
       rw [Lib.index_none]
       intro j hj
       rw [← Lib.size_eq] at hj
       by_cases hjq:j<q
       ·exact hno.out j hjq
       ·exact ZvM (by omega) hj)
def Za4 (c:UInt8):Bool:=decide ((97≤c.toNat∧c.toNat≤122)∨(48≤c.toNat∧c.toNat≤57)∨c.toNat=45∨c.toNat=95)
def Zb2 (s:ByteArray):Bool:=decide (1≤s.size∧s.size≤30∧97≤(s.data.toList.headD 0).toNat∧(s.data.toList.headD 0).toNat≤122)&&s.data.toList.all Za4
theorem ZoK (s:ByteArray) (h:0<s.size):s.data.toList.headD 0=s[0]:=by
 have h2:s.data.toList[0]? = some s[0]:=List.getElem?_eq_getElem (by rw [Array.length_toList];exact h)
 cases hl:s.data.toList with
 | nil=>rw [hl] at h2;cases h2
 | cons a r=>rw [hl] at h2;simpa using h2
theorem ZqQ (s:ByteArray) (h:∀ j (hj:j<s.size),Za4 s[j]=true):s.data.toList.all Za4=true:=by
 rw [List.all_eq_true]
 intro x hx
 obtain ⟨j,hj,rfl⟩:=List.mem_iff_getElem.1 hx
 exact h j (by rw [Array.length_toList] at hj;exact hj)
theorem ZqR (s:ByteArray) (j:Nat) (hj:j<s.size) (h:Za4 s[j]=false):s.data.toList.all Za4=false:=by
 rw [List.all_eq_false]
 exact ⟨s[j],List.mem_iff_getElem.2 ⟨j,by rw [Array.length_toList];exact hj,rfl⟩,by rw [h];decide⟩
theorem ZiA {s:ByteArray} (h:s.size<1):Zb2 s=false:=by
 unfold Zb2;rw [decide_eq_false (by omega),Bool.false_and]
theorem Zjv {s:ByteArray} (h:30<s.size):Zb2 s=false:=by
 unfold Zb2;rw [decide_eq_false (by omega),Bool.false_and]
theorem Zeo {s:ByteArray} (h:0<s.size) (h1:(s[0].toNat:Int)<97∨(122:Int)<s[0].toNat):Zb2 s=false:=by
 unfold Zb2;rw [ZoK s h,decide_eq_false (by omega),Bool.false_and]
theorem Zck {s:ByteArray} (j:Nat) (hj:j<s.size) (h:Za4 s[j]=false):Zb2 s=false:=by
 unfold Zb2;rw [ZqR s j hj h,Bool.and_false]
theorem Zjw {s:ByteArray} (h0:0<s.size) (h30:s.size≤30) (h1:(97:Int)≤s[0].toNat) (h2:(s[0].toNat:Int)≤122) (h:∀ j (hj:j<s.size),Za4 s[j]=true):Zb2 s=true:=by
 unfold Zb2;rw [ZqQ s h,ZoK s h0,decide_eq_true (by omega)];rfl
end Go.Proofs.YtjoneoobolnnbaaGreatDoor
