/- The reference's Valid. | Functions of the library and of titles, as the others are written. | strings.ReplaceAll at one byte for one byte. -/
import Derived.Test.YtpffimahajgiaaaGreatDoorVV06
import Derived.Test.YtpffimahajgiaaaGreatDoorVV03
import Derived.Test.YtpffimahajgiaaaGreatDoorVV02
import Derived.Test.YtpffimahajgiaaaGreatDoorVV05
namespace Go.Proofs.YtpffimahajgiaaaGreatDoor
open Go.RowKit
theorem ZeY (s:ByteArray) (q:Nat) (hq:q<s.size) (w:World):Calls Tryz.prog 75 #[.string ⟨#[60,62,91,93,123,125,124,35,95]⟩,.string (s.extract q (q+1)),.int .i64 0] w fun e w'=>e = .returned (.int .i64 (Lib.indexByte Zdi s[q]))∧w=w':=by
 rw [Zj9 s q hq]
 refine (Zdf _ _ w (by show 9+1≤_;omega)).mono ?_
 rintro e w' ⟨rfl,rfl⟩
 refine ⟨?_,rfl⟩
 rw [← Lib.index_one]
 rfl
set_option maxRecDepth 100000 in
set_option maxHeartbeats 4000000 in
theorem Zez (t:Title) (w:World):Calls Tryz.prog 35 #[.agg #[.int .i64 t.space,.string t.name]] w fun e w'=>e = .returned (.bool t.valid)∧Below w.heap.size w w':=by
 obtain ⟨sp,s⟩:=t
 by_cases h:0≤sp∧sp<6∧1≤s.size∧s.size≤100
 case neg=>
  have hv:Title.valid ⟨sp,s⟩=false:=by
   cases hV:Title.valid ⟨sp,s⟩ with
   | false=>rfl
   | true=>
     simp only [Title.valid,Bool.and_eq_true,decide_eq_true_eq] at hV
     obtain ⟨⟨⟨⟨⟨⟨⟨ha,hb⟩,hc⟩,hd⟩,hcl⟩,_⟩,_⟩,_⟩:=hV
     exact absurd ⟨ha,hb,hc,hd⟩ h
  have HV:=Lib.hid hv
  have h':sp<0∨6≤sp∨(s.size:Int)<1∨(100:Int)<s.size:=by omega
  clear h hv
  go_enter Tryz.func35,Tryz.ntmps35
  go_wp2
  all_goals
   first
   | (exfalso;omega)
   | (go_ret
      exact ⟨Zas HV.out.symm,Below.al (Below.refl _ _) _⟩)
 obtain ⟨h1,h2,h3,h4⟩:=h
 have hs1:(1:Int)≤s.size:=by omega
 have hs2:(s.size:Int)≤100:=by omega
 have HSP:Hid (Title.valid ⟨sp,s⟩=(Zbl (-1) s.data.toList&&((Zcs s.data.toList).all (fun p=>ZbT p.data.toList)&&(Zdj (s[0]'(by omega)).toNat&&(decide (sp≠0)||decide ((ZeK s).1=0)))))):=Lib.hid (by
  rw [Ze7 s ZbT,Zh5,← ZkT s (by omega)]
  simp [Title.valid,h1,h2,h3,h4,Bool.and_assoc])
 go_enter Tryz.func35,Tryz.ntmps35
 go_wp2_with fail
 all_goals try (exfalso;omega)
 generalize hw1:w.alloc _=w1
 have c0_0:w1.cell? ⟨w.heap.size,0,none⟩=some (.int .i64 sp):=by subst hw1;go_simp
 have c0_1:w1.cell? ⟨w.heap.size,1,none⟩=some (.string s):=by subst hw1;go_simp
 have HB:Hid (Below w.heap.size w w1):=by subst hw1;exact Below.al (Below.refl _ _) _
 clear hw1
 have HF:Hid (∀ W,Below w1.heap.size w1 W→W.cell? ⟨w.heap.size,0,none⟩=some (.int .i64 sp)∧W.cell? ⟨w.heap.size,1,none⟩=some (.string s)):=fun W h=>⟨re1 h (ZbX c0_0) c0_0,re1 h (ZbX c0_1) c0_1⟩
 go_loopw [4] (fun i wr=>∃ q:Nat,q≤s.size∧i = .int .i64 q∧wr=w1∧Hid (Zbl (-1) s.data.toList=Zbl (ZcX s q) (s.data.toList.drop q))) (fun i _=>s.size - (intOf i).toNat)
 case atStart=>exact ⟨0,Nat.zero_le _,rfl,rfl,rfl⟩
 case round=>
  obtain ⟨q,hq,rfl,rfl,hC⟩:=hrel
  by_cases hlt:q<s.size
  ·have HD:Hid (s.data.toList.drop q=s[q]::s.data.toList.drop (q+1)):=List.drop_eq_getElem_cons (by rw [Array.length_toList];exact hlt)
   have HP':Hid (ZcX s (q+1)=((s[q]'hlt).toNat:Int)):=by unfold ZcX;rw [dif_pos ⟨Nat.succ_pos q,hlt⟩];rfl
   have b1:(0:Int)≤q:=by omega
   have b2:(q:Int)<(s.size:Int):=by omega
   by_cases h0:q=0
   ·subst h0
    have HP:Hid (ZcX s 0 = -1):=rfl
    go_wp2_with (go_at_call 75;refine (ZeY s 0 hlt _).mono ?_;rintro e w' ⟨rfl,rfl⟩)
    all_goals (try simp only [beq_iff_eq,beq_eq_false_iff_ne,ne_eq] at *)
    all_goals first
     | (exfalso;omega)
     | (go_ret;refine ⟨Zas ?_,HB.out⟩;rw [HSP.out,hC.out,HD.out,ZcQ (by rw [HP.out];omega)];rfl)
     | (go_roundw;(case rel=>(refine ⟨1,by omega,rfl,by trivial,?_⟩;rw [hC.out,HD.out,Zed (by rw [HP.out];omega)];exact congrArg (fun p=>Zbl p (s.data.toList.drop (0+1))) HP'.out.symm));(case measure=>(simp [intOf];omega)))
   ·have HP:Hid (ZcX s q=((s[q - 1]'(by omega)).toNat:Int)):=by unfold ZcX;rw [dif_pos ⟨by omega,by omega⟩];exact Lib.hid rfl
    have hq1:0<q:=by omega
    have b3:(1:Int)≤q:=by omega
    clear h0
    go_wp2_with (go_at_call 75;refine (ZeY s q hlt _).mono ?_;rintro e w' ⟨rfl,rfl⟩)
    all_goals (try simp only [beq_iff_eq,beq_eq_false_iff_ne,ne_eq] at *)
    all_goals first
     | (exfalso;omega)
     | (go_ret;refine ⟨Zas ?_,HB.out⟩;rw [HSP.out,hC.out,HD.out,ZcQ (by rw [HP.out];omega)];rfl)
     | (go_roundw;(case rel=>(refine ⟨q+1,by omega,by go_num,by trivial,?_⟩;rw [hC.out,HD.out,Zed (by rw [HP.out];omega)];exact congrArg (fun p=>Zbl p (s.data.toList.drop (q+1))) HP'.out.symm));(case measure=>(simp [intOf];omega)))
  ·obtain rfl:q=s.size:=by omega
   have hz:s.data.toList.drop s.size = []:=List.drop_eq_nil_of_le (by rw [Array.length_toList];exact Nat.le_refl _)
   have HZ:Hid (Zbl (-1) s.data.toList=true):=by rw [hC.out,hz];exact rfl
   rw [HZ.out,Bool.true_and] at HSP
   clear hz hC HZ
   go_wp2_with fail
   refine (Zhb s _ (by omega)).mono ?_
   rintro e w2 ⟨v,rfl,hown,hb2⟩
   have hps:Hid (∀ p ∈ Zcs s.data.toList,p.size≤100):=Lib.hid (by
    have hall:=Ze7 s (fun l=>decide (l.length≤100))
    have h5:(Lib.splitB ⟨#[47]⟩ 0 (Lib.countB s ⟨#[47]⟩) s).all (fun p=>decide (p.data.toList.length≤100))=true:=by
     rw [List.all_eq_true]
     intro p hp
     have:=ZdU ⟨#[47]⟩ _ s p hp
     rw [Array.length_toList]
     exact decide_eq_true (Nat.le_trans this h4)
    rw [h5,List.all_eq_true] at hall
    intro p hp
    have:=of_decide_eq_true (hall p hp)
    rw [Array.length_toList] at this
    exact this)
   generalize Zcs s.data.toList=ps at *
   obtain ⟨A,c,rfl,hS,_⟩:=hown.sl
   have c1:w2.cell? ⟨w.heap.size,0,none⟩=some (.int .i64 sp):=re1 hb2 (ZbX c0_0) c0_0
   have HB2:=Lib.hid (Below.tr HB.out hb2)
   have HS:=Lib.hid hS
   have hle:=hS.le
   have hle2:(ps.length:Int)≤9223372036854775807:=by omega
   clear hown hb2 hS c0_0 c0_1 HF HB
   go_wp2_with fail
   go_loopw [6] (fun i wr=>∃ q:Nat,q≤ps.length∧i = .int .i64 q∧Below w2.heap.size w2 wr∧Hid (ps.all (fun p=>ZbT p.data.toList)=(ps.drop q).all (fun p=>ZbT p.data.toList))) (fun i _=>ps.length - (intOf i).toNat)
   case atStart=>exact ⟨0,by omega,rfl,Below.refl _ _,rfl⟩
   case round=>
    obtain ⟨q,hq,rfl,hbw,hA⟩:=hrel
    have HW:=Lib.hid hbw
    clear hbw
    by_cases hlt:q<ps.length
    ·have b1:(0:Int)≤q:=by omega
     have b2:(q:Int)<(ps.length:Int):=by omega
     obtain ⟨b,off,x,cs,hA,hbl,hx,hd,hR,hc⟩:=(HS.out.mono HW.out).elem hlt
     obtain rfl:=hA
     have d0:wr.cell? ⟨b,off+q,none⟩=some (.string x):=by subst hR;simpa using hc 0 _ rfl
     have HD:=Lib.hid hd
     have HX:=Lib.hid hx
     clear hx hd hR hc
     have hxs:=hps.out x (List.mem_of_getElem? HX.out)
     by_cases hx0:x.size=0
     ·have hx1:x.toList = []:=by rw [ByteArray.toList_eq];exact List.eq_nil_of_length_eq_zero (by rw [Array.length_toList];exact hx0)
      have HP:Hid (ZbT x.data.toList=false):=Lib.hid (by rw [← ByteArray.toList_eq,hx1];rfl)
      clear hx0
      go_wp2_with fail
      go_quiet (fail)
      go_wp2
      go_ret
      exact ⟨Zas (by rw [HSP.out,hA.out,HD.out,List.all_cons,HP.out];rfl),Below.tr HB2.out (Below.dn HW.out _)⟩
     ·have hx1:¬ x.toList = []:=fun e=>by rw [ByteArray.toList_eq] at e;exact hx0 (by have:=congrArg List.length e;rw [Array.length_toList] at this;exact this)
      have hx2:0<x.size:=by omega
      have hx3:(0:Int)≤(x.size:Int) - 1:=by omega
      have hx4:(0:Int)<(x.size:Int):=by omega
      have hx5:(1:Int)≤(x.size:Int):=by omega
      have hx9:(x.size:Int) - 1<(x.size:Int):=by omega
      have hx6:x.toList.isEmpty=false:=by rw [List.isEmpty_eq_false_iff];exact hx1
      have hx7:(x.toList == [])=false:=beq_eq_false_iff_ne.2 hx1
      have hx8:decide (x.toList = [])=false:=decide_eq_false hx1
      have HP:=Lib.hid (Zf7 x hx2)
      clear hx0
      by_cases hf:(x[0].toNat:Int)=32
      ·have HP2:Hid (ZbT x.data.toList=false):=Lib.hid (by rw [HP.out,hf];rfl)
       go_wp2_with fail
       go_quiet (fail)
       go_wp2
       go_ret
       exact ⟨Zas (by rw [HSP.out,hA.out,HD.out,List.all_cons,HP2.out];rfl),Below.tr HB2.out (Below.dn HW.out _)⟩
      ·by_cases hl:((x[x.size - 1]'(by omega)).toNat:Int)=32
       ·have HP2:Hid (ZbT x.data.toList=false):=Lib.hid (by rw [HP.out,hl];simp)
        have hf:((x[0].toNat:Int) == 32)=false:=beq_eq_false_iff_ne.2 hf
        go_wp2_with fail
        go_quiet (fail)
        go_wp2
        go_ret
        exact ⟨Zas (by rw [HSP.out,hA.out,HD.out,List.all_cons,HP2.out];rfl),Below.tr HB2.out (Below.dn HW.out _)⟩
       ·have HP2:Hid (ZbT x.data.toList=true):=Lib.hid (by rw [HP.out,beq_eq_false_iff_ne.2 hf,beq_eq_false_iff_ne.2 hl];rfl)
        have hf:((x[0].toNat:Int) == 32)=false:=beq_eq_false_iff_ne.2 hf
        have hl:(((x[x.size - 1]'(by omega)).toNat:Int) == 32)=false:=beq_eq_false_iff_ne.2 hl
        go_wp2_with fail
        go_quiet (fail)
        go_wp2
        go_roundw
        case rel=>exact ⟨q+1,by omega,by go_num,Below.dn HW.out _,Lib.hid (by rw [hA.out,HD.out,List.all_cons,HP2.out];rfl)⟩
        case measure=>simp [intOf];omega
    ·obtain rfl:q=ps.length:=by omega
     have hz:ps.all (fun p=>ZbT p.data.toList)=true:=by
      rw [hA.out,List.drop_eq_nil_of_le (Nat.le_refl _)];rfl
     rw [hz,Bool.true_and] at HSP
     have c2:wr.cell? ⟨w.heap.size,0,none⟩=some (.int .i64 sp):=re1 HW.out (ZbX c1) c1
     clear hz hA c1 hps
     have hs0:(0:Int)<s.size:=by omega
     go_wp2_with (go_at_call 77;refine (Zfq s _ (by omega)).mono ?_;rintro e w5 ⟨rfl,hb5⟩;have c3:=re1 hb5 (ZbX c2) c2)
     all_goals
      go_ret
      refine ⟨Zas ?_,?_⟩
      ·rw [HSP.out]
       simp only [beq_iff_eq,beq_eq_false_iff_ne,ne_eq] at *
       first
        | (rw [ZdV (by omega)];rfl)
        | (rw [ZdW (by omega) (by omega)];rfl)
        | (rw [ZcR (by omega) (by omega)];simp_all;done)
        | (rw [ZcR (by omega) (by omega)];simp_all;rfl)
      ·first | exact Below.tr (Below.tr HB2.out HW.out) (by assumption) | exact Below.tr HB2.out HW.out
end Go.Proofs.YtpffimahajgiaaaGreatDoor
set_option linter.unusedVariables false
namespace Go.Proofs.YtpffimahajgiaaaGreatDoor
open VL Go.RowKit
def Zd5 (t:Title):Option Bool:=some t.valid
theorem Zdr (t:Title) (r:Bool) (h:Zd5 t=some r):ZH Tryz.prog 35 [t.pv] (.bool r):=by
 cases h
 exact Zal (vals:=[.agg #[.int .i64 t.space,.string t.name]]) (by kernel_rfl) rfl rfl (fun x=>.bool _) fun w _=>Zez t w
def Zbo (t:Title):Option Bool:=some t.valid
theorem Zb3 (t:Title) (r:Bool) (h:Zbo t=some r):ZH Tryz.prog 40 [t.pv] (.bool r):=by
 cases h
 exact Zal (vals:=[.agg #[.int .i64 t.space,.string t.name]]) (by kernel_rfl) rfl rfl (fun x=>.bool _) fun w hw=>ZhD t w hw.1
def ZcA (a b:Title):Option Int:=some (Title.cmp a b)
theorem ZeG (a b:Title) (r:Int) (h:ZcA a b=some r):ZH Tryz.prog 36 [a.pv,b.pv] (.int .i64 r):=by
 cases h
 exact Zal (vals:=[.agg #[.int .i64 a.space,.string a.name],.agg #[.int .i64 b.space,.string b.name]]) (by kernel_rfl) rfl rfl (fun x=>.int _ _) fun w _=>ZdQ a b w
def strings_Repeat (s:ByteArray) (c:Int):Option ByteArray:=if 0≤c∧c≤9223372036854775807∧s.size * c.toNat≤140737488355328 then some ⟨(Lib.repeatL s.data.toList c.toNat).toArray⟩ else none
theorem ZcW (s:ByteArray) (c:Int) (r:ByteArray) (h:strings_Repeat s c=some r):ZH Tryz.prog 29 [.str s,.int .i64 c] (.str r):=by
 unfold strings_Repeat at h
 split at h
 ·rename_i hc
  cases h
  obtain ⟨n,rfl⟩:∃ n:Nat,c=n:=⟨c.toNat,by omega⟩
  exact Zal (vals:=[.string s,.int .i64 n]) (by kernel_rfl) rfl rfl (fun x=>.str _) fun w hw=>Tryz.strings_Repeat s n w (by omega) (by simpa using hc.2.2)
 ·cases h
end Go.Proofs.YtpffimahajgiaaaGreatDoor

