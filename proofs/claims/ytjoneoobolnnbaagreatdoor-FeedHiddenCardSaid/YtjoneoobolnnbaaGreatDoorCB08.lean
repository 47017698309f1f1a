/- The reference's Valid. -/
import Derived.Test.YtjoneoobolnnbaaGreatDoorCB07
import Derived.Deep.RegionLaw
import Derived.Test.YtjoneoobolnnbaaGreatDoorCB02
import Derived.Test.YtjoneoobolnnbaaGreatDoorCB03
import Derived.Test.YtjoneoobolnnbaaGreatDoorCB01
import Derived.Shelf.GgSortFunc.RowK
set_option maxRecDepth 100000
set_option maxHeartbeats 4000000
namespace Go.Proofs.YtjoneoobolnnbaaGreatDoor
open Go.RowKit
theorem Zmu (s:ByteArray) (q:Nat) (hq:q<s.size) (w:World):Calls Tryz.prog 118 #[.string ⟨#[60,62,91,93,123,125,124,35,95]⟩,.string (s.extract q (q+1)),.int .i64 0] w fun e w'=>e = .returned (.int .i64 (Lib.indexByte Zh2 s[q]))∧w=w':=by
 rw [ZuM s q hq]
 refine (Zk5 _ _ w (by show 9+1≤_;omega)).mono ?_
 rintro e w' ⟨rfl,rfl⟩
 refine ⟨?_,rfl⟩
 rw [← Lib.index_one]
 rfl
theorem Zk7 (t:Title) (w:World):Calls Tryz.prog 68 #[.agg #[.int .i64 t.space,.string t.name]] w fun e w'=>e = .returned (.bool t.valid)∧Below w.heap.size w w':=by
 obtain ⟨sp,s⟩:=t
 by_cases h:0≤sp∧sp<6∧1≤s.size∧s.size≤100
 case neg=>
  have hv:Title.valid ⟨sp,s⟩=false:=by
   cases hV:Title.valid ⟨sp,s⟩ with
   | false=>rfl
   | true=>
     simp only [Title.valid,Bool.and_eq_true,decide_eq_true_eq] at hV
     obtain ⟨⟨⟨⟨⟨⟨⟨ha,hb⟩,hc⟩,hd⟩,hcl⟩,_⟩,_⟩,_⟩:=hV
     exact absurd ⟨ha,hb,hc,hd⟩ h
  have HV:=Lib.hid hv
  have h':sp<0∨6≤sp∨(s.size:Int)<1∨(100:Int)<s.size:=by omega
  clear h hv
  go_enter Tryz.func68,Tryz.ntmps68
  go_wp2
  all_goals
   first
   | (exfalso;omega)
   | (go_ret
      exact ⟨ZaX HV.out.symm,Below.al (Below.refl _ _) _⟩)
 obtain ⟨h1,h2,h3,h4⟩:=h
 have hs1:(1:Int)≤s.size:=by omega
 have hs2:(s.size:Int)≤100:=by omega
 have HSP:Hid (Title.valid ⟨sp,s⟩=(Zc9 (-1) s.data.toList&&((Zf1 s.data.toList).all (fun p=>ZeL p.data.toList)&&(Zh3 (s[0]'(by omega)).toNat&&(decide (sp≠0)||decide ((Zle s).1=0)))))):=Lib.hid (by
  rw [Zme s ZeL,ZqI,← ZuB s (by omega)]
  simp [Title.valid,h1,h2,h3,h4,Bool.and_assoc])
 go_enter Tryz.func68,Tryz.ntmps68
 go_wp2_with fail
 all_goals try (exfalso;omega)
 generalize hw1:w.alloc _=w1
 have c0_0:w1.cell? ⟨w.heap.size,0,none⟩=some (.int .i64 sp):=by subst hw1;go_simp
 have c0_1:w1.cell? ⟨w.heap.size,1,none⟩=some (.string s):=by subst hw1;go_simp
 have HB:Hid (Below w.heap.size w w1):=by subst hw1;exact Below.al (Below.refl _ _) _
 clear hw1
 have HF:Hid (∀ W,Below w1.heap.size w1 W→W.cell? ⟨w.heap.size,0,none⟩=some (.int .i64 sp)∧W.cell? ⟨w.heap.size,1,none⟩=some (.string s)):=fun W h=>⟨re1 h (ZbA c0_0) c0_0,re1 h (ZbA c0_1) c0_1⟩
 go_loopw [4] (fun i wr=>∃ q:Nat,q≤s.size∧i = .int .i64 q∧wr=w1∧Hid (Zc9 (-1) s.data.toList=Zc9 (Zhk s q) (s.data.toList.drop q))) (fun i _=>s.size - (intOf i).toNat)
 case atStart=>exact ⟨0,Nat.zero_le _,rfl,rfl,rfl⟩
 case round=>
  obtain ⟨q,hq,rfl,rfl,hC⟩:=hrel
  by_cases hlt:q<s.size
  ·have HD:Hid (s.data.toList.drop q=s[q]::s.data.toList.drop (q+1)):=List.drop_eq_getElem_cons (by rw [Array.length_toList];exact hlt)
   have HP':Hid (Zhk s (q+1)=((s[q]'hlt).toNat:Int)):=by unfold Zhk;rw [dif_pos ⟨Nat.succ_pos q,hlt⟩];rfl
   have b1:(0:Int)≤q:=by omega
   have b2:(q:Int)<(s.size:Int):=by omega
   by_cases h0:q=0
   ·subst h0
    have HP:Hid (Zhk s 0 = -1):=rfl
    go_wp2_with (go_at_call 118;refine (Zmu s 0 hlt _).mono ?_;rintro e w' ⟨rfl,rfl⟩)
    all_goals (try simp only [beq_iff_eq,beq_eq_false_iff_ne,ne_eq] at *)
    all_goals first
     | (exfalso;omega)
     | (go_ret;refine ⟨ZaX ?_,HB.out⟩;rw [HSP.out,hC.out,HD.out,Zg4 (by rw [HP.out];omega)];rfl)
     | (go_roundw;(case rel=>(refine ⟨1,by omega,rfl,by trivial,?_⟩;rw [hC.out,HD.out,Zkd (by rw [HP.out];omega)];exact congrArg (fun p=>Zc9 p (s.data.toList.drop (0+1))) HP'.out.symm));(case measure=>(simp [intOf];omega)))
   ·have HP:Hid (Zhk s q=((s[q - 1]'(by omega)).toNat:Int)):=by unfold Zhk;rw [dif_pos ⟨by omega,by omega⟩];exact Lib.hid rfl
    have hq1:0<q:=by omega
    have b3:(1:Int)≤q:=by omega
    clear h0
    go_wp2_with (go_at_call 118;refine (Zmu s q hlt _).mono ?_;rintro e w' ⟨rfl,rfl⟩)
    all_goals (try simp only [beq_iff_eq,beq_eq_false_iff_ne,ne_eq] at *)
    all_goals first
     | (exfalso;omega)
     | (go_ret;refine ⟨ZaX ?_,HB.out⟩;rw [HSP.out,hC.out,HD.out,Zg4 (by rw [HP.out];omega)];rfl)
     | (go_roundw;(case rel=>(refine ⟨q+1,by omega,by go_num,by trivial,?_⟩;rw [hC.out,HD.out,Zkd (by rw [HP.out];omega)];exact congrArg (fun p=>Zc9 p (s.data.toList.drop (q+1))) HP'.out.symm));(case measure=>(simp [intOf];omega)))
  ·obtain rfl:q=s.size:=by omega
   have hz:s.data.toList.drop s.size = []:=List.drop_eq_nil_of_le (by rw [Array.length_toList];exact Nat.le_refl _)
   have HZ:Hid (Zc9 (-1) s.data.toList=true):=by rw [hC.out,hz];exact rfl
   rw [HZ.out,Bool.true_and] at HSP
   clear hz hC HZ
   go_wp2_with fail
   refine (Zp5 s _ (by omega)).mono ?_
   rintro e w2 ⟨v,rfl,hown,hb2⟩
   have hps:Hid (∀ p ∈ Zf1 s.data.toList,p.size≤100):=Lib.hid (by
    have hall:=Zme s (fun l=>decide (l.length≤100))
    have h5:(Lib.splitB ⟨#[47]⟩ 0 (Lib.countB s ⟨#[47]⟩) s).all (fun p=>decide (p.data.toList.length≤100))=true:=by
     rw [List.all_eq_true]
     intro p hp
     have:=Zjl ⟨#[47]⟩ _ s p hp
     rw [Array.length_toList]
     exact decide_eq_true (Nat.le_trans this h4)
    rw [h5,List.all_eq_true] at hall
    intro p hp
    have:=of_decide_eq_true (hall p hp)
    rw [Array.length_toList] at this
    exact this)
   generalize Zf1 s.data.toList=ps at *
   obtain ⟨A,c,rfl,hS,_⟩:=hown.sl
   have c1:w2.cell? ⟨w.heap.size,0,none⟩=some (.int .i64 sp):=re1 hb2 (ZbA c0_0) c0_0
   have HB2:=Lib.hid (Below.tr HB.out hb2)
   have HS:=Lib.hid hS
   have hle:=hS.le
   have hle2:(ps.length:Int)≤9223372036854775807:=by omega
   clear hown hb2 hS c0_0 c0_1 HF HB
   go_wp2_with fail
   go_loopw [6] (fun i wr=>∃ q:Nat,q≤ps.length∧i = .int .i64 q∧Below w2.heap.size w2 wr∧Hid (ps.all (fun p=>ZeL p.data.toList)=(ps.drop q).all (fun p=>ZeL p.data.toList))) (fun i _=>ps.length - (intOf i).toNat)
   case atStart=>exact ⟨0,by omega,rfl,Below.refl _ _,rfl⟩
   case round=>
    obtain ⟨q,hq,rfl,hbw,hA⟩:=hrel
    have HW:=Lib.hid hbw
    clear hbw
    by_cases hlt:q<ps.length
    ·have b1:(0:Int)≤q:=by omega
     have b2:(q:Int)<(ps.length:Int):=by omega
     obtain ⟨b,off,x,cs,hA,hbl,hx,hd,hR,hc⟩:=(HS.out.mono HW.out).elem hlt
     obtain rfl:=hA
     have d0:wr.cell? ⟨b,off+q,none⟩=some (.string x):=by subst hR;simpa using hc 0 _ rfl
     have HD:=Lib.hid hd
     have HX:=Lib.hid hx
     clear hx hd hR hc
     have hxs:=hps.out x (List.mem_of_getElem? HX.out)
     by_cases hx0:x.size=0
     ·have hx1:x.toList = []:=by rw [ByteArray.toList_eq];exact List.eq_nil_of_length_eq_zero (by rw [Array.length_toList];exact hx0)
      have HP:Hid (ZeL x.data.toList=false):=Lib.hid (by rw [← ByteArray.toList_eq,hx1];rfl)
      clear hx0
      go_wp2_with fail
      go_quiet (fail)
      go_wp2
      go_ret
      exact ⟨ZaX (by rw [HSP.out,hA.out,HD.out,List.all_cons,HP.out];rfl),Below.tr HB2.out (Below.dn HW.out _)⟩
     ·have hx1:¬ x.toList = []:=fun e=>by rw [ByteArray.toList_eq] at e;exact hx0 (by have:=congrArg List.length e;rw [Array.length_toList] at this;exact this)
      have hx2:0<x.size:=by omega
      have hx3:(0:Int)≤(x.size:Int) - 1:=by omega
      have hx4:(0:Int)<(x.size:Int):=by omega
      have hx5:(1:Int)≤(x.size:Int):=by omega
      have hx9:(x.size:Int) - 1<(x.size:Int):=by omega
      have hx6:x.toList.isEmpty=false:=by rw [List.isEmpty_eq_false_iff];exact hx1
      have hx7:(x.toList == [])=false:=beq_eq_false_iff_ne.2 hx1
      have hx8:decide (x.toList = [])=false:=decide_eq_false hx1
      have HP:=Lib.hid (ZnQ x hx2)
      clear hx0
      by_cases hf:(x[0].toNat:Int)=32
      ·have HP2:Hid (ZeL x.data.toList=false):=Lib.hid (by rw [HP.out,hf];rfl)
       go_wp2_with fail
       go_quiet (fail)
       go_wp2
       go_ret
       exact ⟨ZaX (by rw [HSP.out,hA.out,HD.out,List.all_cons,HP2.out];rfl),Below.tr HB2.out (Below.dn HW.out _)⟩
      ·by_cases hl:((x[x.size - 1]'(by omega)).toNat:Int)=32
       ·have HP2:Hid (ZeL x.data.toList=false):=Lib.hid (by rw [HP.out,hl];simp)
        have hf:((x[0].toNat:Int) == 32)=false:=beq_eq_false_iff_ne.2 hf
        go_wp2_with fail
        go_quiet (fail)
        go_wp2
        go_ret
        exact ⟨ZaX (by rw [HSP.out,hA.out,HD.out,List.all_cons,HP2.out];rfl),Below.tr HB2.out (Below.dn HW.out _)⟩
       ·have HP2:Hid (ZeL x.data.toList=true):=Lib.hid (by rw [HP.out,beq_eq_false_iff_ne.2 hf,beq_eq_false_iff_ne.2 hl];rfl)
        have hf:((x[0].toNat:Int) == 32)=false:=beq_eq_false_iff_ne.2 hf
        have hl:(((x[x.size - 1]'(by omega)).toNat:Int) == 32)=false:=beq_eq_false_iff_ne.2 hl
        go_wp2_with fail
        go_quiet (fail)
        go_wp2
        go_roundw
        case rel=>exact ⟨q+1,by omega,by go_num,Below.dn HW.out _,Lib.hid (by rw [hA.out,HD.out,List.all_cons,HP2.out];rfl)⟩
        case measure=>simp [intOf];omega
    ·obtain rfl:q=ps.length:=by omega
     have hz:ps.all (fun p=>ZeL p.data.toList)=true:=by
      rw [hA.out,List.drop_eq_nil_of_le (Nat.le_refl _)];rfl
     rw [hz,Bool.true_and] at HSP
     have c2:wr.cell? ⟨w.heap.size,0,none⟩=some (.int .i64 sp):=re1 HW.out (ZbA c1) c1
     clear hz hA c1 hps
     have hs0:(0:Int)<s.size:=by omega
     go_wp2_with (go_at_call 120;refine (ZmL s _ (by omega)).mono ?_;rintro e w5 ⟨rfl,hb5⟩;have c3:=re1 hb5 (ZbA c2) c2)
     all_goals
      go_ret
      refine ⟨ZaX ?_,?_⟩
      ·rw [HSP.out]
       simp only [beq_iff_eq,beq_eq_false_iff_ne,ne_eq] at *
       first
        | (rw [Zjm (by omega)];rfl)
        | (rw [Zjn (by omega) (by omega)];rfl)
        | (rw [Zg5 (by omega) (by omega)];simp_all;done)
        | (rw [Zg5 (by omega) (by omega)];simp_all;rfl)
      ·first | exact Below.tr (Below.tr HB2.out HW.out) (by assumption) | exact Below.tr HB2.out HW.out
def Zo3 (L:List ByteArray) (s:ByteArray):Bool:=L.any (fun x=>decide (x=s))
theorem ZuS {L:List ByteArray} {q:Nat} {x s:ByteArray} (h:L.drop q=x::L.drop (q+1)) (hne:x≠s):Zo3 (L.drop q) s=Zo3 (L.drop (q+1)) s:=by
 unfold Zo3
 rw [h,List.any_cons,decide_eq_false hne,Bool.false_or]
theorem ZxX {L:List ByteArray} {q:Nat} {x s:ByteArray} (h:L.drop q=x::L.drop (q+1)) (he:x=s):Zo3 (L.drop q) s=true:=by
 unfold Zo3
 rw [h,List.any_cons,decide_eq_true he,Bool.true_or]
theorem Zs5 (A:Option Addr) (n c:Nat) (L:List ByteArray) (s:ByteArray) (w:World) (hS:SlR w A n c L):Calls Tryz.prog 134 #[.slice A n c,.string s] w fun e w'=>e = .returned (.bool (Zo3 L s))∧w=w':=by
 have HS:=Lib.hid hS
 have hle:=hS.le
 have hle2:(n:Int)≤9223372036854775807:=by omega
 have HN:=Lib.hid hS.1
 clear hS
 go_enter Tryz.func134,Tryz.ntmps134
 go_wp2
 go_loop [5] (fun i=>∃ q:Nat,q≤n∧i = .int .i64 q∧Hid (Zo3 L s=Zo3 (L.drop q) s)) (fun i=>n - (intOf i).toNat)
 case atStart=>exact ⟨0,by omega,rfl,rfl⟩
 case round=>
  obtain ⟨q,hq,rfl,hno⟩:=hrel
  by_cases hlt:q<n
  ·have b1:(0:Int)≤q:=by omega
   have b2:(q:Int)<(n:Int):=by omega
   obtain ⟨b,off,x,cs,hA,hbl,hx,hd,hR,hc⟩:=(HS.out).elem hlt
   obtain rfl:=hA
   have d0:w.cell? ⟨b,off+q,none⟩=some (.string x):=by subst hR;simpa using hc 0 _ rfl
   have HD:=Lib.hid hd
   have HX:=Lib.hid hx
   clear hx hd hR hc
   go_wp2
   all_goals (try simp only [beq_iff_eq,beq_eq_false_iff_ne,ne_eq] at *)
   ·have h:x.toList=s.toList:=by assumption
    go_ret
    refine ⟨ZaX ?_,rfl⟩
    rw [hno.out,ZxX HD.out (toList_inj h)]
   ·have h:¬ x.toList=s.toList:=by assumption
    exact ⟨⟨q+1,by omega,by simp,Lib.hid (hno.out.trans (ZuS HD.out (fun e=>h (by rw [e]))))⟩,by simp [intOf];omega⟩
  ·obtain rfl:q=n:=by omega
   have HE:Hid (Zo3 L s=false):=Lib.hid (by rw [hno.out,HN.out,List.drop_length];rfl)
   go_wp2
   go_ret
   exact ⟨ZaX HE.out.symm,rfl⟩
theorem OwnL.drew {α:Type} [Enc α] {w:World} {B:Nat} {E:TypeId} {v:Value} {xs:List α} (h:OwnL w B E v xs):OwnL w.drew B E v xs:=OwnL.keep (Below.refl _ _).drew h
theorem OwnL.al {α:Type} [Enc α] {w:World} {B:Nat} {E:TypeId} {v:Value} {xs:List α} (h:OwnL w B E v xs) (o:Obj):OwnL (w.alloc o) B E v xs:=OwnL.keep (Below.al (Below.refl _ _) _) h
theorem ZjI {P:Program} {α:Type} [Enc α] {ops:Array Oper} {o:Oper} {a:Act} {w:World} {K:Act→World→Prop} {Q:Exit→Act→World→Prop} {E0:Prop} (hgd:o.guard=none) (s x:Operand) (t:TypeId)
  (ho:o.op = .call { callee:=.builtin .append,args:=#[s,x],argTypes:=#[t,t] })
  {E:TypeId} {bytes:Nat} (ok:Zm3 P t E (Enc.k α) bytes) (hk0:0<Enc.k α) {B:Nat} {v:Value} {xs:List α} (hs:a.eval s=v) (hown:OwnL w B E v xs)
  {A:Option Addr} {m c:Nat} {ys:List α} {S:Nat→Prop} (hx:a.eval x = .slice A m c) (hr:SlS S w A m c ys) (hE:∀ (y:α) (cs:List Value),y ∈ ys→Enc.R S w y cs→Enc.R (fun b=>v.ownBlock≠some b) w y cs)
  (h63:xs.length+m≤maxLen) (hbytes:(xs.length+m) * bytes≤140737488355328) (hbase:B≤w.heap.size)
  (h:∀ v' w',OwnL w' B E v' (xs++ys)→w.grownBy w' v.ownBlock→(v'.ownBlock=v.ownBlock∨v'.ownBlock=some w.heap.size)→K (a.put o.dst v') w') :
  if Region.wanted o (yielded ops a.tmps)=true then Oper.wp P o a w K Q else E0:=by
 have hw:Region.wanted o (yielded ops a.tmps)=true:=by simp [Region.wanted,hgd]
 rw [if_pos hw]
 exact Zm4 s x t ho ok hk0 hs hown hx hr hE h63 hbytes hbase h
def ZiE (x:Title):List Value:=[.int .i64 x.space,.string x.name]
def Zcl (t:Title) (q:Nat):List Title:=((List.range q).filter (fun i=>t.name.data.toList[i]? == some 47)).map (fun i=>⟨t.space,t.name.extract 0 i⟩)
def Zi1 (t:Title):List Title:=if t.valid then Zcl t t.name.size else []
theorem ZmQ {t:Title} {q:Nat} (hq:q<t.name.size) (h:(t.name[q].toNat:Int)=47):Zcl t (q+1)=Zcl t q ++ [⟨t.space,t.name.extract 0 q⟩]:=by
 have h2:t.name.data.toList[q]? = some t.name[q]:=List.getElem?_eq_getElem (by rw [Array.length_toList];exact hq)
 have h3:t.name[q]=47:=UInt8.toNat_inj.1 (by show _=47;omega)
 have h4:(fun i=>t.name.data.toList[i]? == some 47) q=true:=by show (t.name.data.toList[q]? == some 47)=true;rw [h2,h3];rfl
 unfold Zcl
 rw [List.range_succ,List.filter_append,List.map_append,List.filter_cons_of_pos (p:=fun i=>t.name.data.toList[i]? == some 47) h4]
 rfl
theorem ZnR {t:Title} {q:Nat} (hq:q<t.name.size) (h:¬ (t.name[q].toNat:Int)=47):Zcl t (q+1)=Zcl t q:=by
 have h2:t.name.data.toList[q]? = some t.name[q]:=List.getElem?_eq_getElem (by rw [Array.length_toList];exact hq)
 have h3:¬ t.name[q]=47:=fun e=>h (by rw [e];rfl)
 have h4:¬ (fun i=>t.name.data.toList[i]? == some 47) q=true:=by show ¬ (t.name.data.toList[q]? == some 47)=true;rw [h2];simpa using h3
 unfold Zcl
 rw [List.range_succ,List.filter_append,List.map_append,List.filter_cons_of_neg (p:=fun i=>t.name.data.toList[i]? == some 47) h4]
 simp
theorem Zjo (t:Title) (q:Nat):(Zcl t q).length≤q:=by
 unfold Zcl
 rw [List.length_map]
 exact Nat.le_trans (List.length_filter_le _ _) (by simp)
theorem Zr2:Zm3 Tryz.prog 40 29 (Enc.k Title) 24:=Zwz Tryz.underlying40 (by kernel_rfl)
theorem ZoO (t:Title) (w:World) (_:Glob w):Calls Tryz.prog 68 #[.agg #[.int .i64 t.space,.string t.name]] w fun e w'=>e = .returned (.bool t.valid)∧Below w.heap.size w w':=Zk7 t w
theorem Zll (t:Title) (w:World) (hG:Glob w):Calls Tryz.prog 184 #[.agg #[.int .i64 t.space,.string t.name]] w fun e w'=>∃ v,e = .returned v∧OwnL w' w.heap.size 29 v (Zi1 t)∧Below w.heap.size w w':=by
 have HV:Hid (t.valid=true→t.name.size≤100):=Lib.hid fun h=>by
  simp only [Title.valid,Bool.and_eq_true,decide_eq_true_eq] at h
  omega
 have HA:Hid (Zi1 t=if t.valid then Zcl t t.name.size else []):=Lib.hid rfl
 obtain ⟨sp,s⟩:=t
 go_enter Tryz.func184,Tryz.ntmps184
 go_wp2_with fail
 generalize hw1:w.alloc _=w1
 have c0_0:w1.cell? ⟨w.heap.size,0,none⟩=some (.int .i64 sp):=by subst hw1;go_simp
 have c0_1:w1.cell? ⟨w.heap.size,1,none⟩=some (.string s):=by subst hw1;go_simp
 have HB:Hid (Below w.heap.size w w1):=by subst hw1;exact Below.al (Below.refl _ _) _
 clear hw1
 have HF:Hid (∀ W,Below w1.heap.size w1 W→W.cell? ⟨w.heap.size,0,none⟩=some (.int .i64 sp)∧W.cell? ⟨w.heap.size,1,none⟩=some (.string s)):=fun W h=>⟨re1 h (ZbA c0_0) c0_0,re1 h (ZbA c0_1) c0_1⟩
 refine (ZoO ⟨sp,s⟩ _ (hG.below HB.out)).mono ?_
 rintro e w2 ⟨rfl,hb2⟩
 try clear c0_0 c0_1
 obtain ⟨c0_0,c0_1⟩:=HF.out _ (hb2)
 have HB2:=Lib.hid (Below.tr HB.out hb2)
 clear hb2 HB HF
 by_cases hv:Title.valid ⟨sp,s⟩=true
 case neg=>
  have hv:Title.valid ⟨sp,s⟩=false:=by simpa using hv
  rw [hv] at HA ⊢
  clear hv HV
  go_wp2
  go_ret
  exact ⟨_,rfl,by rw [HA.out];exact OwnL.nil _ _ _,HB2.out⟩
 have hs:=HV.out hv
 rw [hv] at HA ⊢
 clear hv HV
 go_wp2_with fail
 go_loopw [3,4] (fun l i wr=>∃ q:Nat,q≤s.size∧i = .int .i64 q∧Below w2.heap.size w2 wr∧OwnL wr w2.heap.size 29 l (Zcl ⟨sp,s⟩ q)) (fun _ i _=>s.size - (intOf i).toNat)
 case atStart=>exact ⟨0,by omega,rfl,Below.refl _ _,OwnL.nil _ _ _⟩
 case round=>
  obtain ⟨q,hq,rfl,hbw,hown⟩:=hrel
  have HQ:=Lib.hid hbw
  have HW:=Lib.hid hown
  have e0:=re1 HQ.out (ZbA c0_0) c0_0
  have e1:=re1 HQ.out (ZbA c0_1) c0_1
  clear hbw hown
  by_cases hlt:q<s.size
  ·have b1:(0:Int)≤q:=by omega
   have b2:(q:Int)<(s.size:Int):=by omega
   by_cases h47:(s[q].toNat:Int)=47
   ·have hl:=Zjo ⟨sp,s⟩ q
    have HL:=Lib.hid (ZmQ (t:=⟨sp,s⟩) hlt h47)
    have B3:Hid ((Zcl ⟨sp,s⟩ q).length+1≤maxLen):=Lib.hid (by unfold maxLen;omega)
    have B4:Hid (((Zcl ⟨sp,s⟩ q).length+1) * 24≤140737488355328):=Lib.hid (by omega)
    have hg:w2.heap.size≤wr.heap.size:=HQ.out.size
    clear hl
    generalize Zcl ⟨sp,s⟩ q=L at *
    go_upto_region 8 with fail
    go_region_law (refine ZjI rfl _ _ 40 rfl Zr2 (by decide) (B:=w2.heap.size) (v:=u3) (xs:=L) rfl (by first | exact HW.out.drew.al _ | exact (HW.out.al _).drew) (S:=fun _=>True) (ys:=[(⟨sp,s.extract 0 q⟩:Title)]) rfl (by first | exact SlR.made ZiE (fun _ _ _=>rfl) _ _ (xs:=[(⟨sp,s.extract 0 q⟩:Title)]) rfl rfl (show 1≤9223372036854775807 by omega) rfl | exact SlR.drew (SlR.made ZiE (fun _ _ _=>rfl) _ _ (xs:=[(⟨sp,s.extract 0 q⟩:Title)]) rfl rfl (show 1≤9223372036854775807 by omega) rfl)) (fun _ _ _ h=>h) B3.out B4.out (by simp;omega) ?_;intro v' w' hown hg2 hv')
    all_goals
     go_wp2
     refine ⟨⟨q+1,by omega,by go_num,?_,by rw [HL.out];exact hown⟩,by simp [intOf];omega⟩
     refine Below.grown ?_ hg2 (by simp;omega) (fun j hj=>HW.out.ge hj)
     exact (HQ.out.alloc hg _).drew
   ·have HL:=Lib.hid (ZnR (t:=⟨sp,s⟩) hlt h47)
    go_wp2
    go_roundw
    case rel=>exact ⟨q+1,by omega,by go_num,HQ.out,by rw [HL.out];exact HW.out⟩
    case measure=>simp [intOf];omega
  ·obtain rfl:q=s.size:=by omega
   go_wp2
   go_ret
   refine ⟨_,rfl,?_,Below.tr HB2.out HQ.out⟩
   rw [HA.out,if_pos trivial]
   exact HW.out.base HB2.out.size
theorem ZoP (t:Title) (w:World) (hG:Glob w):Calls Tryz.prog 162 #[.agg #[.int .i64 t.space,.string t.name]] w fun e w'=>∃ v,e = .returned v∧OwnL w' w.heap.size 29 v (Zi1 t)∧Below w.heap.size w w':=by
 have HV:Hid (t.valid=true→t.name.size≤100):=Lib.hid fun h=>by
  simp only [Title.valid,Bool.and_eq_true,decide_eq_true_eq] at h
  omega
 have HA:Hid (Zi1 t=if t.valid then Zcl t t.name.size else []):=Lib.hid rfl
 obtain ⟨sp,s⟩:=t
 go_enter Tryz.func162,Tryz.ntmps162
 go_wp2_with fail
 generalize hw1:w.alloc _=w1
 have c0_0:w1.cell? ⟨w.heap.size,0,none⟩=some (.int .i64 sp):=by subst hw1;go_simp
 have c0_1:w1.cell? ⟨w.heap.size,1,none⟩=some (.string s):=by subst hw1;go_simp
 have HB:Hid (Below w.heap.size w w1):=by subst hw1;exact Below.al (Below.refl _ _) _
 clear hw1
 have HF:Hid (∀ W,Below w1.heap.size w1 W→W.cell? ⟨w.heap.size,0,none⟩=some (.int .i64 sp)∧W.cell? ⟨w.heap.size,1,none⟩=some (.string s)):=fun W h=>⟨re1 h (ZbA c0_0) c0_0,re1 h (ZbA c0_1) c0_1⟩
 refine (ZpZ ⟨sp,s⟩ _ (hG.below HB.out)).mono ?_
 rintro e w2 ⟨rfl,hb2⟩
 try clear c0_0 c0_1
 obtain ⟨c0_0,c0_1⟩:=HF.out _ (hb2)
 have HB2:=Lib.hid (Below.tr HB.out hb2)
 clear hb2 HB HF
 by_cases hv:Title.valid ⟨sp,s⟩=true
 case neg=>
  have hv:Title.valid ⟨sp,s⟩=false:=by simpa using hv
  rw [hv] at HA ⊢
  clear hv HV
  go_wp2
  go_ret
  exact ⟨_,rfl,by rw [HA.out];exact OwnL.nil _ _ _,HB2.out⟩
 have hs:=HV.out hv
 rw [hv] at HA ⊢
 clear hv HV
 go_wp2_with fail
 go_loopw [3,4] (fun l i wr=>∃ q:Nat,q≤s.size∧i = .int .i64 q∧Below w2.heap.size w2 wr∧OwnL wr w2.heap.size 29 l (Zcl ⟨sp,s⟩ q)) (fun _ i _=>s.size - (intOf i).toNat)
 case atStart=>exact ⟨0,by omega,rfl,Below.refl _ _,OwnL.nil _ _ _⟩
 case round=>
  obtain ⟨q,hq,rfl,hbw,hown⟩:=hrel
  have HQ:=Lib.hid hbw
  have HW:=Lib.hid hown
  have e0:=re1 HQ.out (ZbA c0_0) c0_0
  have e1:=re1 HQ.out (ZbA c0_1) c0_1
  clear hbw hown
  by_cases hlt:q<s.size
  ·have b1:(0:Int)≤q:=by omega
   have b2:(q:Int)<(s.size:Int):=by omega
   by_cases h47:(s[q].toNat:Int)=47
   ·have hl:=Zjo ⟨sp,s⟩ q
    have HL:=Lib.hid (ZmQ (t:=⟨sp,s⟩) hlt h47)
    have B3:Hid ((Zcl ⟨sp,s⟩ q).length+1≤maxLen):=Lib.hid (by unfold maxLen;omega)
    have B4:Hid (((Zcl ⟨sp,s⟩ q).length+1) * 24≤140737488355328):=Lib.hid (by omega)
    have hg:w2.heap.size≤wr.heap.size:=HQ.out.size
    clear hl
    generalize Zcl ⟨sp,s⟩ q=L at *
    go_upto_region 8 with fail
    go_region_law (refine ZjI rfl _ _ 40 rfl Zr2 (by decide) (B:=w2.heap.size) (v:=u3) (xs:=L) rfl (by first | exact HW.out.drew.al _ | exact (HW.out.al _).drew) (S:=fun _=>True) (ys:=[(⟨sp,s.extract 0 q⟩:Title)]) rfl (by first | exact SlR.made ZiE (fun _ _ _=>rfl) _ _ (xs:=[(⟨sp,s.extract 0 q⟩:Title)]) rfl rfl (show 1≤9223372036854775807 by omega) rfl | exact SlR.drew (SlR.made ZiE (fun _ _ _=>rfl) _ _ (xs:=[(⟨sp,s.extract 0 q⟩:Title)]) rfl rfl (show 1≤9223372036854775807 by omega) rfl)) (fun _ _ _ h=>h) B3.out B4.out (by simp;omega) ?_;intro v' w' hown hg2 hv')
    all_goals
     go_wp2
     refine ⟨⟨q+1,by omega,by go_num,?_,by rw [HL.out];exact hown⟩,by simp [intOf];omega⟩
     refine Below.grown ?_ hg2 (by simp;omega) (fun j hj=>HW.out.ge hj)
     exact (HQ.out.alloc hg _).drew
   ·have HL:=Lib.hid (ZnR (t:=⟨sp,s⟩) hlt h47)
    go_wp2
    go_roundw
    case rel=>exact ⟨q+1,by omega,by go_num,HQ.out,by rw [HL.out];exact HW.out⟩
    case measure=>simp [intOf];omega
  ·obtain rfl:q=s.size:=by omega
   go_wp2
   go_ret
   refine ⟨_,rfl,?_,Below.tr HB2.out HQ.out⟩
   rw [HA.out,if_pos trivial]
   exact HW.out.base HB2.out.size
theorem SlR.strCells {w:World} {A:Option Addr} {n c:Nat} {xs:List ByteArray} (h:SlR w A n c xs) (h0:0<n):∃ b off,A=some ⟨b,off,none⟩∧∀ j,j<xs.length→w.cell? ⟨b,off+j,none⟩=some (.string (xs.getD j ByteArray.empty)):=by
 obtain ⟨b,off,css,hA,_,_,hx⟩:=h.2.2.2 h0
 refine ⟨b,off,hA,fun j hj=>?_⟩
 obtain ⟨hR,hc⟩:=hx j xs[j] (List.getElem?_eq_getElem hj)
 have hR':css j = [.string xs[j]]:=hR
 have:=hc 0 _ (by rw [hR'];rfl)
 rw [List.getD_eq_getElem?_getD,List.getElem?_eq_getElem hj,Option.getD_some]
 simpa using this
theorem ZoY (L:List ByteArray) (s:ByteArray):Lib.containsS L s=Zo3 L s:=by
 unfold Zo3
 rw [Bool.eq_iff_iff,Lib.containsS_iff,List.any_eq_true]
 exact ⟨fun h=>⟨s,h,by simp⟩,fun ⟨x,hx,he⟩=>by rw [← of_decide_eq_true he];exact hx⟩
theorem Zp8 (A:Option Addr) (n c:Nat) (L:List ByteArray) (s:ByteArray) (w:World) (hS:SlR w A n c L):Calls Tryz.prog 107 #[.slice A n c,.string s] w fun e w'=>e = .returned (.bool (Zo3 L s))∧w'=w:=by
 have hn:=hS.1
 have hle:=hS.le
 rcases Nat.eq_zero_or_pos n with h0 | h0
 ·subst h0
  obtain rfl:L = []:=List.eq_nil_of_length_eq_zero hn.symm
  exact Tryz.slices_Contains_string_empty A c s w
 ·obtain ⟨b,off,rfl,hc⟩:=hS.strCells h0
  refine (Tryz.slices_Contains_string b off n c L s w (by omega) (by omega) hc).mono ?_
  rintro e w' ⟨rfl,rfl⟩
  exact ⟨by rw [List.take_of_length_le (by omega),ZoY],rfl⟩
def ZeI (a b:Scope):Bool:=decide (a.kind=b.kind)&&(if a.kind=3 then decide (a.title=b.title) else if a.kind=2 then decide (a.title.space=b.title.space) else true)
theorem ZrX {a b:Scope} (h:¬ a.kind=b.kind):ZeI a b=false:=by unfold ZeI;rw [decide_eq_false h,Bool.false_and]
theorem ZoH {a b:Scope} (h:a.kind=b.kind) (h3:a.kind=3):ZeI a b=decide (a.title=b.title):=by unfold ZeI;rw [decide_eq_true h,if_pos h3,Bool.true_and]
theorem Zuj {a b:Scope} (h:a.kind=b.kind) (h3:a.kind=2):ZeI a b=decide (a.title.space=b.title.space):=by unfold ZeI;rw [decide_eq_true h,if_neg (by omega),if_pos h3,Bool.true_and]
theorem Zuk {a b:Scope} (h:a.kind=b.kind) (h3:¬ a.kind=3) (h2:¬ a.kind=2):ZeI a b=true:=by unfold ZeI;rw [decide_eq_true h,if_neg h3,if_neg h2,Bool.true_and]
theorem Zq6 (a b:Scope) (w:World):Calls Tryz.prog 135 #[.agg #[.int .i64 a.kind,.int .i64 a.title.space,.string a.title.name],.agg #[.int .i64 b.kind,.int .i64 b.title.space,.string b.title.name]] w fun e w'=>e = .returned (.bool (ZeI a b))∧Below w.heap.size w w':=by
 have HD:Hid (∀ x y:Title,x=y↔x.space=y.space∧x.name.toList=y.name.toList):=Lib.hid fun x y=>by
  obtain ⟨x1,x2⟩:=x
  obtain ⟨y1,y2⟩:=y
  simp only [Title.mk.injEq,Zcw]
 have HB:Hid (∀ o1 o2,Below w.heap.size w ((w.alloc o1).alloc o2)):=Lib.hid fun o1 o2=>Below.al (Below.al (Below.refl _ _) _) _
 go_enter Tryz.func135,Tryz.ntmps135
 go_wp2
 all_goals (try simp only [beq_iff_eq,beq_eq_false_iff_ne,bne_iff_ne,bne_eq_false_iff_eq,ne_eq] at *)
 all_goals
  go_ret
  refine ⟨ZaX ?_,HB.out _ _⟩
  first
  | (rw [ZrX (by assumption)];done)
  | (rw [Zuk (by assumption) (by assumption) (by assumption)];done)
  | (rw [Zuj (by assumption) (by assumption)];first | rfl | simp_all)
  | (rw [ZoH (by assumption) (by assumption)];refine (decide_eq_true ?_).symm;rw [HD.out];constructor<;>assumption)
  | (rw [ZoH (by assumption) (by assumption)];refine (decide_eq_false ?_).symm;rw [HD.out];rintro ⟨h1,h2⟩;first | (exact absurd h1 (by assumption)) | (exact absurd h2 (by assumption)))
theorem ZsO (a b:Scope) (w:World):Calls Tryz.prog 108 #[.agg #[.int .i64 a.kind,.int .i64 a.title.space,.string a.title.name],.agg #[.int .i64 b.kind,.int .i64 b.title.space,.string b.title.name]] w fun e w'=>e = .returned (.bool (ZeI a b))∧Below w.heap.size w w':=by
 have HD:Hid (∀ x y:Title,x=y↔x.space=y.space∧x.name.toList=y.name.toList):=Lib.hid fun x y=>by
  obtain ⟨x1,x2⟩:=x
  obtain ⟨y1,y2⟩:=y
  simp only [Title.mk.injEq,Zcw]
 have HB:Hid (∀ o1 o2,Below w.heap.size w ((w.alloc o1).alloc o2)):=Lib.hid fun o1 o2=>Below.al (Below.al (Below.refl _ _) _) _
 go_enter Tryz.func108,Tryz.ntmps108
 go_wp2
 all_goals (try simp only [beq_iff_eq,beq_eq_false_iff_ne,bne_iff_ne,bne_eq_false_iff_eq,ne_eq] at *)
 all_goals
  go_ret
  refine ⟨ZaX ?_,HB.out _ _⟩
  first
  | (rw [ZrX (by assumption)];done)
  | (rw [Zuk (by assumption) (by assumption) (by assumption)];done)
  | (rw [Zuj (by assumption) (by assumption)];first | rfl | simp_all)
  | (rw [ZoH (by assumption) (by assumption)];refine (decide_eq_true ?_).symm;rw [HD.out];constructor<;>assumption)
  | (rw [ZoH (by assumption) (by assumption)];refine (decide_eq_false ?_).symm;rw [HD.out];rintro ⟨h1,h2⟩;first | (exact absurd h1 (by assumption)) | (exact absurd h2 (by assumption)))
end Go.Proofs.YtjoneoobolnnbaaGreatDoor
namespace Go.Proofs.YtjoneoobolnnbaaGreatDoor
open VL Go.RowKit
theorem Zug (t:Title):Zd Tryz.prog 54 [t.pv] (.bool t.valid):=
 Zay (vals:=[.agg #[.int .i64 t.space,.string t.name]]) (by kernel_rfl) rfl rfl (fun x=>.bool _) fun w hw=>ZpZ t w hw.1
theorem ZnH (t:Title):Zd Tryz.prog 68 [t.pv] (.bool t.valid):=
 Zay (vals:=[.agg #[.int .i64 t.space,.string t.name]]) (by kernel_rfl) rfl rfl (fun x=>.bool _) fun w _=>Zk7 t w
theorem args2 {x:Ctx} {p q:PV} {vs:Array Value} (h:Pre x [p,q] none vs):∃ v w,vs = #[v,w]∧Rep x p v∧Rep x q w:=by
 have hs:vs.size=2:=h.size.symm
 refine ⟨vs[0],vs[1],?_,h.rep 0 p _ rfl (Array.getElem?_eq_getElem (by omega)),h.rep 1 q _ rfl (Array.getElem?_eq_getElem (by omega))⟩
 apply Array.ext
 ·exact hs
 ·intro i h1 h2
  match i,(show i<2 by omega) with
  | 0,_=>rfl
  | 1,_=>rfl
theorem ZoD {x:Ctx} {s:ByteArray} {v:Value} (h:Rep x (.str s) v):v = .string s:=by cases h;rfl
theorem ZyU (L:List ByteArray) (s:ByteArray):Zd Tryz.prog 134 [Zp3 L,.str s] (.bool (Zo3 L s)):=
 Zeu (by kernel_rfl) rfl (fun x=>.bool _) fun x vs hp _=>by
  obtain ⟨v,w,rfl,h1,h2⟩:=args2 hp
  obtain rfl:=ZoD h2
  obtain ⟨A,n,c,rfl,hS⟩:=Zjg hp.flt h1
  exact (Zs5 A n c L s x.W hS).mono fun e w' ⟨e1,e2⟩=>⟨e1,e2 ▸ Below.refl _ _⟩
theorem ZnI (L:List ByteArray) (s:ByteArray):Zd Tryz.prog 107 [Zp3 L,.str s] (.bool (Zo3 L s)):=
 Zeu (by kernel_rfl) rfl (fun x=>.bool _) fun x vs hp _=>by
  obtain ⟨v,w,rfl,h1,h2⟩:=args2 hp
  obtain rfl:=ZoD h2
  obtain ⟨A,n,c,rfl,hS⟩:=Zjg hp.flt h1
  exact (Zp8 A n c L s x.W hS).mono fun e w' ⟨e1,e2⟩=>⟨e1,e2 ▸ Below.refl _ _⟩
theorem ZpM (a b:Scope):Zd Tryz.prog 135 [a.pv,b.pv] (.bool (ZeI a b)):=
 Zay (vals:=[.agg #[.int .i64 a.kind,.int .i64 a.title.space,.string a.title.name],.agg #[.int .i64 b.kind,.int .i64 b.title.space,.string b.title.name]]) (by kernel_rfl) rfl rfl (fun x=>.bool _) fun w _=>Zq6 a b w
theorem ZvU (a b:Scope):Zd Tryz.prog 108 [a.pv,b.pv] (.bool (ZeI a b)):=
 Zay (vals:=[.agg #[.int .i64 a.kind,.int .i64 a.title.space,.string a.title.name],.agg #[.int .i64 b.kind,.int .i64 b.title.space,.string b.title.name]]) (by kernel_rfl) rfl rfl (fun x=>.bool _) fun w _=>ZsO a b w
end Go.Proofs.YtjoneoobolnnbaaGreatDoor
set_option linter.unusedVariables false
namespace Go.Proofs.YtjoneoobolnnbaaGreatDoor
open VL
def Zba (s:ByteArray):Option Bool:=some (Zbl s)
theorem ZbM (s:ByteArray) (r:Bool) (h:Zba s=some r):Zd Tryz.prog 121 [.str s] (.bool r):=by cases h;exact ZoS s _ (ZpL s)
def Zcn (s:ByteArray):Option Bool:=some (Zbl s)
theorem ZdY (s:ByteArray) (r:Bool) (h:Zcn s=some r):Zd Tryz.prog 55 [.str s] (.bool r):=by cases h;exact Zlm s _ (Zue s)
def ZbD (t:Title):Option Bool:=some t.valid
theorem Zcv (t:Title) (r:Bool) (h:ZbD t=some r):Zd Tryz.prog 68 [t.pv] (.bool r):=by cases h;exact ZnH t
def Zdn (t:Title):Option Bool:=some t.valid
theorem Ze9 (t:Title) (r:Bool) (h:Zdn t=some r):Zd Tryz.prog 54 [t.pv] (.bool r):=by cases h;exact Zug t
def Zrq (L:List ByteArray) (s:ByteArray):Option Bool:=some (Zo3 L s)
theorem Zp2 (L:List ByteArray) (s:ByteArray) (r:Bool) (h:Zrq L s=some r):Zd Tryz.prog 134 [.sl (List.map csS L),.str s] (.bool r):=by cases h;exact ZyU L s
def slices_Contains_string (L:List ByteArray) (s:ByteArray):Option Bool:=some (Zo3 L s)
theorem Zb1 (L:List ByteArray) (s:ByteArray) (r:Bool) (h:slices_Contains_string L s=some r):Zd Tryz.prog 107 [.sl (List.map csS L),.str s] (.bool r):=by cases h;exact ZnI L s
def ZiI (a b:Title):Option Int:=some (Title.cmp a b)
theorem Zia (a b:Title) (r:Int) (h:ZiI a b=some r):Zd Tryz.prog 139 [a.pv,b.pv] (.int .i64 r):=by
 cases h
 exact Zay (vals:=[.agg #[.int .i64 a.space,.string a.name],.agg #[.int .i64 b.space,.string b.name]]) (by kernel_rfl) rfl rfl (fun x=>.int _ _) fun w _=>Zi9 a b w
end Go.Proofs.YtjoneoobolnnbaaGreatDoor
namespace Go.Proofs.YtjoneoobolnnbaaGreatDoor
namespace VL
theorem Zcu {p q:Prop} (k:q) (h:q→p:=by
 (intro k)
 (first
  | refine ZrU rfl (by (conv=>lhs;whnf);try rfl) ?_
  | refine ZnN rfl rfl rfl ?_
  | refine Zg1 rfl rfl ?_
  | refine ZlH rfl (by (conv=>lhs;whnf);try rfl) ?_
  | refine Zsm rfl rfl rfl rfl (by (conv=>lhs;whnf);try rfl) ?_
  | refine Zvm rfl rfl rfl rfl (by (conv=>lhs;whnf);try rfl) ?_
  | refine Zvy rfl rfl ?_
  | refine ZkG rfl rfl ?_
  | refine ZrH rfl rfl ?_
  | refine ZrG rfl rfl rfl rfl ?_
  | refine ZyC rfl rfl rfl (by decide) ?_
  | refine ZyV rfl rfl ?_
  | refine ZvV rfl (by (conv=>lhs;whnf);try rfl) (by (conv=>lhs;whnf);try rfl) (by rfl) ?_
  | refine ZmB rfl rfl ?_
  | refine ZmC rfl rfl rfl (by (conv=>lhs;whnf);try rfl) (by (conv=>lhs;whnf);try rfl) (by rfl) (by rfl) (Nat.le_of_ble_eq_true rfl) (by (conv=>lhs;whnf);try rfl) ?_
  | refine ZmD rfl rfl ?_
  | refine Zk9 rfl rfl rfl (by rfl) (by decide) (by (conv=>lhs;whnf);try rfl) ?_
  | refine Zj6 rfl rfl rfl ?_
  | refine Zvn rfl rfl ?_
  | refine ZrV rfl rfl (by (conv=>lhs;whnf);try rfl) ?_
  | refine ZoF rfl rfl rfl ?_
  | refine Zn8 ?_
  | refine Zn9 (by kernel_rfl) ?_
  | refine Zor ?_
  | refine Zv ?_
  | refine ZdN ?_
  | refine ZlB ?_
  | refine Zos ?_
  | refine ZlC ?_
  | refine Zoq ?_
  | refine Zot ?_
  | refine ZrI ?_
  | refine ZjU ?_
  | refine Zou ?_
  | refine ZrJ ?_)
 (exact k)):p:=h k
end VL
end Go.Proofs.YtjoneoobolnnbaaGreatDoor
namespace Go.Proofs.YtjoneoobolnnbaaGreatDoor
namespace VL
open Go.RowKit Go.Sort
section
variable {α:Type} [Inhabited α]
theorem ZkN (enc:α→List Value) (k:Nat) (hk:∀ x,(enc x).length=k) (M:List α):(flatK enc k M.toArray).toList=M.flatMap enc:=by
 have hlen:(M.flatMap enc).length=M.length * k:=by
  induction M with
  | nil=>simp
  | cons x M ih=>simp [List.flatMap_cons,hk,ih,Nat.succ_mul];omega
 apply List.ext_getElem?
 intro t
 by_cases ht:t<M.length * k
 ·have hk0:0<k:=by rcases Nat.eq_zero_or_pos k with h | h
                   ·subst h;simp at ht
                   ·exact h
  have hi:t / k<M.length:=Nat.div_lt_of_lt_mul (by rw [Nat.mul_comm];exact ht)
  have hj:t % k<k:=Nat.mod_lt _ hk0
  have e:=Zo6 enc k hk M (t / k) M[t / k] (t % k) ((enc M[t / k])[t % k]'(by rw [hk];exact hj)) (List.getElem?_eq_getElem hi) (List.getElem?_eq_getElem (by rw [hk];exact hj))
  rw [Nat.mul_comm (t / k) k,Nat.div_add_mod] at e
  rw [e]
  have h1:t<(flatK enc k M.toArray).size:=by rw [size_flatK];simpa using ht
  have h2:=get_flatK enc k M.toArray t (by simpa using ht)
  rw [getElem!_pos _ t h1] at h2
  rw [Array.getElem?_toList,Array.getElem?_eq_getElem h1,h2,getElem!_pos M.toArray (t / k) (by simpa using hi)]
  simp only [List.getElem_toArray]
  rw [getElem!_pos (enc M[t / k]) (t % k) (by rw [hk];exact hj)]
 ·rw [List.getElem?_eq_none (l:=(flatK enc k M.toArray).toList) (by simp;omega),List.getElem?_eq_none (l:=M.flatMap enc) (by rw [hlen];omega)]
theorem ZsZ (enc:α→List Value) (k:Nat) (hk:∀ x,(enc x).length=k) {w:World} {g:Nat} {cur:Array Value} {E:TypeId} {L:List α} (hb:w.heap[g]? = some (.cells cur E (0,0))) (ht:cur.toList.take (L.length * k)=L.flatMap enc):HoldsK enc k w g 0 L.toArray:=by
 intro j hj
 have hj':j<L.length * k:=by simpa using hj
 refine ⟨?_,by simp [World.frozen?,hb]⟩
 have h1:(cur.toList.take (L.length * k))[j]? = (flatK enc k L.toArray).toList[j]?:=by rw [ht,ZkN enc k hk]
 rw [List.getElem?_take_of_lt hj'] at h1
 simp only [World.cell?,hb,Nat.zero_add]
 simp only [Option.isSome_none,Bool.false_eq_true,if_false]
 rw [← Array.getElem?_toList,h1,Array.getElem?_toList,Array.getElem?_eq_getElem hj,getElem!_pos _ j hj]
 rfl
theorem Zrp (enc:α→List Value) (k:Nat) (hk:∀ x,(enc x).length=k) {w:World} {g cap n:Nat} {cur:Array Value} {E:TypeId} {M:List α} (hb:w.heap[g]? = some (.cells cur E (0,0))) (h1:M.length≤cap) (h2:cap≤maxLen) (h3:cur.size=cap * k) :
  (putRowK enc k (Sort.ahead w n) g 0 M.toArray).ownsRow 0 E k (.slice (some ⟨g,0,none⟩) M.length cap) M.length (M.flatMap enc)∧Gr (fun b=>blk (.slice (some ⟨g,0,none⟩) M.length cap)=some b) w (putRowK enc k (Sort.ahead w n) g 0 M.toArray):=by
 have hg:g<w.heap.size:=(Array.getElem?_eq_some_iff.1 hb).1
 have hh:(putRowK enc k (Sort.ahead w n) g 0 M.toArray).heap[g]? = some (.cells (putCells id 0 (flatK enc k M.toArray) cur) E (0,0)):=by
  simp [putRowK,putRow,mapBlock,Sort.ahead,Array.getElem?_modify,hb,onCells]
 have hlen:(M.flatMap enc).length=M.length * k:=by rw [← ZkN enc k hk M];simp
 refine ⟨⟨hlen,.inr ⟨g,cap,_,rfl,Nat.zero_le _,hh,h1,h2,by simp [putCells,h3],?_⟩⟩,rfl,rfl,rfl,by simp [putRowK,putRow,mapBlock,Sort.ahead],fun b hb' hne=>?_⟩
 ·rw [← ZkN enc k hk M]
  have hle:M.length * k≤cur.size:=by rw [h3];exact Nat.mul_le_mul_right _ h1
  apply List.ext_getElem?
  intro j
  by_cases hj:j<M.length * k
  ·rw [List.getElem?_take_of_lt hj,Array.getElem?_toList,Array.getElem?_toList]
   simp [putCells,hj,show j<cur.size by omega]
  ·rw [List.getElem?_take_eq_none (by omega),List.getElem?_eq_none (by simp;omega)]
 ·have:g≠b:=fun e=>hne (by rw [e];rfl)
  simp [putRowK,putRow,mapBlock,Sort.ahead,Array.getElem?_modify,this]
end
theorem Zkh:∀ {a b:List PV} {va vb:List Value},ZbL a=some va→ZbL b=some vb→ZbL (a++b)=some (va++vb)
 | [],b,va,vb,h,k=>by
   injection h with h
   subst h
   exact k
 | p::a,b,va,vb,h,k=>by
   simp only [ZbL] at h
   split at h
   ·rename_i v vs h1 h2
    injection h with h
    subst h
    simp only [List.cons_append,ZbL]
    rw [h1,Zkh h2 k]
   ·cases h
theorem Zem {α:Type} {cs:α→List PV} {enc:α→List Value} (h:∀ x,ZbL (cs x)=some (enc x)):∀ (xs:List α),ZbL (xs.map cs).flatten=some (xs.flatMap enc)
 | []=>rfl
 | x::xs=>by
   rw [List.map_cons,List.flatten_cons,List.flatMap_cons]
   exact Zkh (h x) (Zem h xs)
section
variable {P:Program} [WInv P]
theorem Zi2 {α:Type} [Enc α] [EncPV α] {f:FuncId} {args:List PV} {vals:List Value} {E:TypeId} {xs:List α} {enc:α→List Value} (hg:isGo P f=true) (hp:∀ (x:Ctx) (vs:Array Value),Pre x args none vs→vs=vals.toArray) (hpl:∀ x:α,ZbL (EncPV.cs x)=some (enc x))
  (hE:∀ (S:Nat→Prop) (w:World) (x:α) (cs:List Value),Enc.R S w x cs→cs=enc x) (hk:∀ x:α,(EncPV.cs x).length=Enc.k α)
  (h:∀ w,(∀ W,Below w.heap.size w W→WInv.I P W)→Calls P f vals.toArray w fun e w'=>∃ v,e = .returned v∧OwnL w' w.heap.size E v xs∧Below w.heap.size w w'):ContractN P f args (.row E (Enc.k α) false (xs.map EncPV.cs)):=by
 refine ⟨hg,fun cs h=>(by cases h),fun x vs hpre hI=>?_⟩
 obtain rfl:vs=vals.toArray:=hp x vs hpre
 refine (h x.W fun W hW=>hI W ⟨hW.os,hW.tape,hW.output,hW.size,fun b hb _=>hW.block b hb⟩).mono ?_
 rintro _ w' ⟨v,rfl,⟨css,hl,hown,hR⟩,hb⟩
 let y:Ctx:=⟨fun g=>g=(0,0),x.F,w',fun _=>v⟩
 have hcss:css.flatten=xs.flatMap enc:=by
  have:css=xs.map enc:=by
   apply List.ext_getElem?
   intro i
   by_cases hi:i<xs.length
   ·have h1:xs[i]? = some xs[i]:=List.getElem?_eq_getElem hi
    have h2:css[i]? = some css[i]:=List.getElem?_eq_getElem (by omega)
    rw [h2,List.getElem?_map,h1,hE _ _ _ _ (hR i _ _ h1 h2)]
    rfl
   ·rw [List.getElem?_eq_none (by omega),List.getElem?_eq_none (by simp;omega)]
  rw [this]
  rfl
 have hpure:∀ e ∈ xs.map EncPV.cs,∀ p ∈ e,p.pure=true:=fun e he p hpm=>by
  obtain ⟨z,_,rfl⟩:=List.mem_map.1 he
  obtain ⟨j,hj⟩:=List.getElem?_of_mem hpm
  have:=Zgs (hpl z) hj
  obtain ⟨r,_,_⟩:=this
  have:∀ (l:List PV) {vs:List Value},ZbL l=some vs→∀ p ∈ l,p.pure=true:=fun l=>by
   induction l with
   | nil=>intro vs _ p hp;cases hp
   | cons q l ih=>
     intro vs hq p hp
     simp only [ZbL] at hq
     split at hq
     ·rename_i v1 vs1 h1 h2
      rcases List.mem_cons.1 hp with rfl | hp
      ·cases p<;>simp_all [Zka,PV.pure]
      ·exact ih h2 p hp
     ·cases hq
  exact this _ (hpl z) p hpm
 refine ⟨y,v,rfl,rfl,⟨fun g hg=>?_,fun _ _ h=>h,fun b o v hF hv=>(World.cell?_of_block (hb.block b (hpre.flt b o hF))).trans hv⟩,Gr.ofBelow hb,fun _ _ h=>.inl h,fun b o hF=>Nat.lt_of_lt_of_le (hpre.flt b o hF) hb.size,(0,0),rfl,fun e he=>?_,hpure,css.flatten,?_,fun m p w hm hw=>?_,fun b hbk=>?_⟩
 ·obtain ⟨j,os,h,_⟩:=hpre.gen g hg
  cases h
 ·obtain ⟨z,_,rfl⟩:=List.mem_map.1 he
  exact hk z
 ·rw [List.length_map]
  exact ⟨hown.1,hown.2.imp id fun ⟨g,cap,cur,h1,h2,h3⟩=>⟨g,cap,cur,h1,Nat.zero_le _,h3⟩⟩
 ·obtain ⟨r,h1,h2⟩:=Zgs (Zem hpl xs) hm
  rw [hcss,h1] at hw
  injection hw with hw
  subst hw
  rw [← h2]
  exact Zki y r
 ·have hB:x.W.heap.size≤b:=by
   change blk v=some b at hbk
   rcases hown.2 with ⟨hn,_⟩ | ⟨b',cap,cur,hv,hB,_⟩
   ·rw [hn] at hbk
    simp [blk] at hbk
   ·rw [hv] at hbk
    obtain rfl:b'=b:=by simpa [blk] using hbk
    exact hB
  exact ⟨.inl hB,fun o hF=>by
   have h1:=hpre.flt b o hF
   omega⟩
theorem Znl {α:Type} [Enc α] [EncPV α] {f:FuncId} {args:List PV} {vals:List Value} {E:TypeId} {xs:List α} {enc:α→List Value} (hg:isGo P f=true) (hp:∀ (x:Ctx) (vs:Array Value),Pre x args none vs→vs=vals.toArray) (hpl:∀ x:α,ZbL (EncPV.cs x)=some (enc x))
  (hE:∀ (S:Nat→Prop) (w:World) (x:α) (cs:List Value),Enc.R S w x cs→cs=enc x) (hk:∀ x:α,(EncPV.cs x).length=Enc.k α)
  (h:∀ w,WInv.I P w→Calls P f vals.toArray w fun e w'=>∃ v,e = .returned v∧OwnL w' w.heap.size E v xs∧Below w.heap.size w w'):ContractN P f args (.row E (Enc.k α) false (xs.map EncPV.cs)):=
 Zi2 hg hp hpl hE hk fun w hw=>h w (hw w (Below.refl _ _))
theorem Ze8 {α:Type} [Enc α] [EncPV α] {f:FuncId} {args:List PV} {vals:List Value} {E:TypeId} {xs:List α} {enc:α→List Value} (hg:isGo P f=true) (hp:ZnG args=some vals) (hpl:∀ x:α,ZbL (EncPV.cs x)=some (enc x))
  (hE:∀ (S:Nat→Prop) (w:World) (x:α) (cs:List Value),Enc.R S w x cs→cs=enc x) (hk:∀ x:α,(EncPV.cs x).length=Enc.k α)
  (h:∀ w,WInv.I P w→Calls P f vals.toArray w fun e w'=>∃ v,e = .returned v∧OwnL w' w.heap.size E v xs∧Below w.heap.size w w'):ContractN P f args (.row E (Enc.k α) false (xs.map EncPV.cs)):=by
 refine Znl (vals:=vals) hg (fun x vs hpre=>?_) hpl hE hk h
 have e:vs.toList=vals:=ZkE args hp vs.toList (by simpa using hpre.size) fun i p v hp hv=>hpre.rep i p v hp (by simpa using hv)
 rw [← e]
end
end VL
end Go.Proofs.YtjoneoobolnnbaaGreatDoor
namespace Go.Proofs.YtjoneoobolnnbaaGreatDoor
open Go.RowKit
def ZiF:List Title→List Scope
 | []=>[]
 | a::r=>ZiF r ++ [⟨3,a⟩]
def ZR (t:Title):List Scope:=[⟨3,t⟩]++ZiF (Zi1 t) ++ [⟨2,⟨t.space,⟨#[]⟩⟩⟩,⟨1,⟨0,⟨#[]⟩⟩⟩]
theorem Zh8:∀ l,(ZiF l).length=l.length
 | []=>rfl
 | a::r=>by simp [ZiF,Zh8 r]
theorem ZlJ (t:Title):(Zi1 t).length≤100:=by
 unfold Zi1
 split
 ·rename_i h
  have:=Zjo t t.name.size
  simp only [Title.valid,Bool.and_eq_true,decide_eq_true_eq] at h
  omega
 ·simp
end Go.Proofs.YtjoneoobolnnbaaGreatDoor
namespace Go.Proofs.YtjoneoobolnnbaaGreatDoor
open VL Go.RowKit
def Zex (x:Title):List Value:=[.int .i64 x.space,.string x.name]
theorem Zfj (x:Title):ZbL (Title.cs x)=some (Zex x):=rfl
instance:EncPV Title:=⟨Title.cs,fun w x vs h=>by
 have h':vs=Zex x:=h
 subst h'
 refine ⟨rfl,fun j p v hp hv=>?_⟩
 obtain ⟨r,h1,h2⟩:=Zgs (Zfj x) hp
 rw [h1] at hv
 injection hv with hv
 subst hv
 match j,hp with
 | 0,hp=>injection hp with hp;subst hp;injection h1 with h1;subst h1;exact ⟨rfl,.int .i64 _⟩
 | 1,hp=>injection hp with hp;subst hp;injection h1 with h1;subst h1;exact ⟨rfl,.str _⟩⟩
theorem Zrk (t:Title):ContractN Tryz.prog 162 [t.pv] (.row 29 2 false ((Zi1 t).map Title.cs)):=
 Ze8 (vals:=[.agg #[.int .i64 t.space,.string t.name]]) (enc:=Zex) (by kernel_rfl) rfl Zfj (fun S w x cs h=>h) (fun x=>rfl) fun w hw=>ZoP t w hw.1
instance:Inhabited Title:=⟨⟨0,⟨#[]⟩⟩⟩
theorem ZuC (M:List Title):ContractM Tryz.prog 163 29 2 (M.map Title.cs) (M.reverse.map Title.cs):=by
 have hk:∀ x,(Zex x).length=2:=fun _=>rfl
 refine ⟨by kernel_rfl,fun e he=>?_,fun e he p hp=>?_,by rw [Zem Zfj];rfl,fun W v vs hown hvs _=>?_⟩
 ·obtain ⟨x,_,rfl⟩:=List.mem_map.1 he
  rfl
 ·obtain ⟨x,_,rfl⟩:=List.mem_map.1 he
  simp [Title.cs] at hp
  rcases hp with rfl | rfl<;>rfl
 ·rw [Zem Zfj] at hvs
  injection hvs with hvs
  subst hvs
  rw [List.length_map] at hown
  rcases hown.2 with ⟨hn,h0⟩ | ⟨g,cap,cur,hv,hB,hh,h1,h2,h3,ht⟩
  ·obtain rfl:M = []:=List.eq_nil_of_length_eq_zero h0
   subst hn
   refine (AnyQ.slices_Reverse_empty Tryz.reverseTitle none 0 W).mono ?_
   rintro e w' ⟨rfl,rfl⟩
   exact ⟨[],rfl,rfl,World.ownsRow_nil _ _ _ _,Gr.refl _ _⟩
  ·subst hv
   have hH:=ZsZ Zex 2 hk hh ht
   have hle:M.toArray.size≤9223372036854775807:=by unfold maxLen at h2;simp;omega
   have:=AnyQ.slices_Reverse Tryz.reverseTitle 2 Tryz.isAgg29 Tryz.sizeOf29 Zex hk (fun x v hv=>by simp [Zex] at hv;rcases hv with rfl | rfl<;>rfl) g 0 cap M.toArray W hH hle
   refine Calls.mono this ?_
   rintro e w' ⟨rfl,n,rfl⟩
   have hr:M.toArray.reverse=M.reverse.toArray:=by simp
   rw [hr]
   obtain ⟨o1,o2⟩:=Zrp (n:=n) Zex 2 hk (M:=M.reverse) hh (by simpa using h1) h2 h3
   rw [List.length_reverse] at o1 o2
   refine ⟨M.reverse.flatMap Zex,rfl,Zem Zfj _,?_,?_⟩
   ·rw [List.length_map,List.length_reverse]
    exact o1
   ·exact o2
end Go.Proofs.YtjoneoobolnnbaaGreatDoor
