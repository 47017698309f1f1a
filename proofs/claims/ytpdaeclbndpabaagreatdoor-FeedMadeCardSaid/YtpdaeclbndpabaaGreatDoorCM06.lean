/- The reference's Valid. | The reference's Has, BuiltIn, -/
import Derived.Test.YtpdaeclbndpabaaGreatDoorCM05
set_option linter.unusedSimpArgs false
set_option maxRecDepth 100000
set_option maxHeartbeats 8000000
set_option linter.unusedVariables false
namespace Go.Proofs.YtpdaeclbndpabaaGreatDoor
section
open Go.RowKit
theorem ZkG (s:ByteArray) (q:Nat) (hq:q<s.size) (w:World):Calls Tryz.prog 100 #[.string ⟨#[60,62,91,93,123,125,124,35,95]⟩,.string (s.extract q (q+1)),.int .i64 0] w fun e w'=>e = .returned (.int .i64 (Lib.indexByte ZgS s[q]))/\w=w':=by{
rw [ZtP s q hq]
refine (ZjT _ _ w (by show 9+1<=_;omega)).mono ?_
rintro e w' ⟨rfl,rfl⟩
refine ⟨?_,rfl⟩
rw [<- Lib.index_one]
rfl}
theorem ZjI (t:Title) (w:World):Calls Tryz.prog 49 #[.agg #[.int .i64 t.space,.string t.name]] w fun e w'=>e = .returned (.bool t.valid)/\Below w.heap.size w w':=by{
obtain ⟨sp,s⟩:=t
by_cases h:0<=sp/\sp<6/\1<=s.size/\s.size<=100
case neg=>
 have hv:Title.valid ⟨sp,s⟩=false:=by
  cases hV:Title.valid ⟨sp,s⟩ with
  | false=>rfl
  | true=>
    simp only [Title.valid,Bool.and_eq_true,decide_eq_true_eq] at hV
    obtain ⟨⟨⟨⟨⟨⟨⟨ha,hb⟩,hc⟩,hd⟩,hcl⟩,_⟩,_⟩,_⟩:=hV
    exact absurd ⟨ha,hb,hc,hd⟩ h
 have HV:=Lib.hid hv
 have h':sp<0\/6<=sp\/(s.size:Int)<1\/(100:Int)<s.size:=by omega
 clear h hv
 go_enter Tryz.func49,Tryz.ntmps49
 go_wp2
 all_goals
  first
  | (exfalso;omega)
  | (go_ret
     exact ⟨ZaD HV.out.symm,Below.al (Below.refl _ _) _⟩)
obtain ⟨h1,h2,h3,h4⟩:=h
have hs1:(1:Int)<=s.size:=by omega
have hs2:(s.size:Int)<=100:=by omega
have HSP:Hid (Title.valid ⟨sp,s⟩=(Zck (-1) s.data.toList&&((Ze3 s.data.toList).all (fun p=>ZdT p.data.toList)&&(ZgT (s[0]'(by omega)).toNat&&(decide (sp≠0)||decide ((ZjQ s).1=0)))))):=Lib.hid (by
 rw [Zlw s ZdT,Zqr,<- ZtR s (by omega)]
 simp [Title.valid,h1,h2,h3,h4,Bool.and_assoc])
go_enter Tryz.func49,Tryz.ntmps49
go_wp2_with fail
all_goals try (exfalso;omega)
generalize hw1:w.alloc _=w1
have c0_0:w1.cell? ⟨w.heap.size,0,none⟩=some (.int .i64 sp):=by subst hw1;go_simp
have c0_1:w1.cell? ⟨w.heap.size,1,none⟩=some (.string s):=by subst hw1;go_simp
have HB:Hid (Below w.heap.size w w1):=by subst hw1;exact Below.al (Below.refl _ _) _
clear hw1
have HF:Hid (∀ W,Below w1.heap.size w1 W->W.cell? ⟨w.heap.size,0,none⟩=some (.int .i64 sp)/\W.cell? ⟨w.heap.size,1,none⟩=some (.string s)):=fun W h=>⟨re1 h (Za3 c0_0) c0_0,re1 h (Za3 c0_1) c0_1⟩
go_loopw [4] (fun i wr=>∃ q:Nat,q<=s.size/\i = .int .i64 q/\wr=w1/\Hid (Zck (-1) s.data.toList=Zck (Zgg s q) (s.data.toList.drop q))) (fun i _=>s.size-(intOf i).toNat)
case atStart=>exact ⟨0,Nat.zero_le _,rfl,rfl,rfl⟩
case round=>
 obtain ⟨q,hq,rfl,rfl,hC⟩:=hrel
 by_cases hlt:q<s.size
 have HD:Hid (s.data.toList.drop q=s[q]::s.data.toList.drop (q+1)):=List.drop_eq_getElem_cons (by rw [Array.length_toList];exact hlt)
 have HP':Hid (Zgg s (q+1)=((s[q]'hlt).toNat:Int)):=by unfold Zgg;rw [dif_pos ⟨Nat.succ_pos q,hlt⟩];rfl
 have b1:(0:Int)<=q:=by omega
 have b2:(q:Int)<(s.size:Int):=by omega
 by_cases h0:q=0
 ·subst h0
  have HP:Hid (Zgg s 0 = -1):=rfl
  go_wp2_with (go_at_call 100;refine (ZkG s 0 hlt _).mono ?_;rintro e w' ⟨rfl,rfl⟩)
  all_goals (try simp only [beq_iff_eq,beq_eq_false_iff_ne,ne_eq] at *)
  all_goals first
   | (exfalso;omega)
   | (go_ret;refine ⟨ZaD ?_,HB.out⟩;rw [HSP.out,hC.out,HD.out,Zf7 (by rw [HP.out];omega)];rfl)
   | (go_roundw;(case rel=>(refine ⟨1,by omega,rfl,by trivial,?_⟩;rw [hC.out,HD.out,ZiQ (by rw [HP.out];omega)];exact congrArg (fun p=>Zck p (s.data.toList.drop (0+1))) HP'.out.symm));(case measure=>(simp [intOf];omega)))
 ·have HP:Hid (Zgg s q=((s[q-1]'(by omega)).toNat:Int)):=by unfold Zgg;rw [dif_pos ⟨by omega,by omega⟩];exact Lib.hid rfl
  have hq1:0<q:=by omega
  have b3:(1:Int)<=q:=by omega
  clear h0
  go_wp2_with (go_at_call 100;refine (ZkG s q hlt _).mono ?_;rintro e w' ⟨rfl,rfl⟩)
  all_goals (try simp only [beq_iff_eq,beq_eq_false_iff_ne,ne_eq] at *)
  all_goals first
   | (exfalso;omega)
   | (go_ret;refine ⟨ZaD ?_,HB.out⟩;rw [HSP.out,hC.out,HD.out,Zf7 (by rw [HP.out];omega)];rfl)
   | (go_roundw;(case rel=>(refine ⟨q+1,by omega,by go_num,by trivial,?_⟩;rw [hC.out,HD.out,ZiQ (by rw [HP.out];omega)];exact congrArg (fun p=>Zck p (s.data.toList.drop (q+1))) HP'.out.symm));(case measure=>(simp [intOf];omega)))
 ·obtain rfl:q=s.size:=by omega
  have hz:s.data.toList.drop s.size = []:=List.drop_eq_nil_of_le (by rw [Array.length_toList];exact Nat.le_refl _)
  have HZ:Hid (Zck (-1) s.data.toList=true):=by rw [hC.out,hz];exact rfl
  rw [HZ.out,Bool.true_and] at HSP
  clear hz hC HZ
  go_wp2_with fail
  refine (ZoP s _ (by omega)).mono ?_
  rintro e w2 ⟨v,rfl,hown,hb2⟩
  have hps:Hid (∀ p ∈ Ze3 s.data.toList,p.size<=100):=Lib.hid (by
   have hall:=Zlw s (fun l=>decide (l.length<=100))
   have h5:(Lib.splitB ⟨#[47]⟩ 0 (Lib.countB s ⟨#[47]⟩) s).all (fun p=>decide (p.data.toList.length<=100))=true:=by
    rw [List.all_eq_true]
    intro p hp
    have:=Zh4 ⟨#[47]⟩ _ s p hp
    rw [Array.length_toList]
    exact decide_eq_true (Nat.le_trans this h4)
   rw [h5,List.all_eq_true] at hall
   intro p hp
   have:=of_decide_eq_true (hall p hp)
   rw [Array.length_toList] at this
   exact this)
  generalize Ze3 s.data.toList=ps at *
  obtain ⟨A,c,rfl,hS,_⟩:=hown.sl
  have c1:w2.cell? ⟨w.heap.size,0,none⟩=some (.int .i64 sp):=re1 hb2 (Za3 c0_0) c0_0
  have HB2:=Lib.hid (Below.tr HB.out hb2)
  have HS:=Lib.hid hS
  have hle:=hS.le
  have hle2:(ps.length:Int)<=9223372036854775807:=by omega
  clear hown hb2 hS c0_0 c0_1 HF HB
  go_wp2_with fail
  go_loopw [6] (fun i wr=>∃ q:Nat,q<=ps.length/\i = .int .i64 q/\Below w2.heap.size w2 wr/\Hid (ps.all (fun p=>ZdT p.data.toList)=(ps.drop q).all (fun p=>ZdT p.data.toList))) (fun i _=>ps.length-(intOf i).toNat)
  case atStart=>exact ⟨0,by omega,rfl,Below.refl _ _,rfl⟩
  case round=>
   obtain ⟨q,hq,rfl,hbw,hA⟩:=hrel
   have HW:=Lib.hid hbw
   clear hbw
   by_cases hlt:q<ps.length
   have b1:(0:Int)<=q:=by omega
   have b2:(q:Int)<(ps.length:Int):=by omega
   obtain ⟨b,off,x,cs,hA,hbl,hx,hd,hR,hc⟩:=(HS.out.mono HW.out).elem hlt
   obtain rfl:=hA
   have d0:wr.cell? ⟨b,off+q,none⟩=some (.string x):=by subst hR;simpa using hc 0 _ rfl
   have HD:=Lib.hid hd
   have HX:=Lib.hid hx
   clear hx hd hR hc
   have hxs:=hps.out x (List.mem_of_getElem? HX.out)
   by_cases hx0:x.size=0
   ·have hx1:x.toList = []:=by rw [ByteArray.toList_eq];exact List.eq_nil_of_length_eq_zero (by rw [Array.length_toList];exact hx0)
    have HP:Hid (ZdT x.data.toList=false):=Lib.hid (by rw [<- ByteArray.toList_eq,hx1];rfl)
    clear hx0
    go_wp2_with fail
    go_quiet (fail)
    go_wp2
    go_ret
    exact ⟨ZaD (by rw [HSP.out,hA.out,HD.out,List.all_cons,HP.out];rfl),Below.tr HB2.out (Below.dn HW.out _)⟩
   have hx1:¬ x.toList = []:=fun e=>by rw [ByteArray.toList_eq] at e;exact hx0 (by have:=congrArg List.length e;rw [Array.length_toList] at this;exact this)
   have hx2:0<x.size:=by omega
   have hx3:(0:Int)<=(x.size:Int)-1:=by omega
   have hx4:(0:Int)<(x.size:Int):=by omega
   have hx5:(1:Int)<=(x.size:Int):=by omega
   have hx9:(x.size:Int)-1<(x.size:Int):=by omega
   have hx6:x.toList.isEmpty=false:=by rw [List.isEmpty_eq_false_iff];exact hx1
   have hx7:(x.toList == [])=false:=beq_eq_false_iff_ne.2 hx1
   have hx8:decide (x.toList = [])=false:=decide_eq_false hx1
   have HP:=Lib.hid (Zmw x hx2)
   clear hx0
   by_cases hf:(x[0].toNat:Int)=32
   ·have HP2:Hid (ZdT x.data.toList=false):=Lib.hid (by rw [HP.out,hf];rfl)
    go_wp2_with fail
    go_quiet (fail)
    go_wp2
    go_ret
    exact ⟨ZaD (by rw [HSP.out,hA.out,HD.out,List.all_cons,HP2.out];rfl),Below.tr HB2.out (Below.dn HW.out _)⟩
   by_cases hl:((x[x.size-1]'(by omega)).toNat:Int)=32
   ·have HP2:Hid (ZdT x.data.toList=false):=Lib.hid (by rw [HP.out,hl];simp)
    have hf:((x[0].toNat:Int) == 32)=false:=beq_eq_false_iff_ne.2 hf
    go_wp2_with fail
    go_quiet (fail)
    go_wp2
    go_ret
    exact ⟨ZaD (by rw [HSP.out,hA.out,HD.out,List.all_cons,HP2.out];rfl),Below.tr HB2.out (Below.dn HW.out _)⟩
   ·have HP2:Hid (ZdT x.data.toList=true):=Lib.hid (by rw [HP.out,beq_eq_false_iff_ne.2 hf,beq_eq_false_iff_ne.2 hl];rfl)
    have hf:((x[0].toNat:Int) == 32)=false:=beq_eq_false_iff_ne.2 hf
    have hl:(((x[x.size-1]'(by omega)).toNat:Int) == 32)=false:=beq_eq_false_iff_ne.2 hl
    go_wp2_with fail
    go_quiet (fail)
    go_wp2
    go_roundw
    case rel=>exact ⟨q+1,by omega,by go_num,Below.dn HW.out _,Lib.hid (by rw [hA.out,HD.out,List.all_cons,HP2.out];rfl)⟩
    case measure=>simp [intOf];omega
   ·obtain rfl:q=ps.length:=by omega
    have hz:ps.all (fun p=>ZdT p.data.toList)=true:=by
     rw [hA.out,List.drop_eq_nil_of_le (Nat.le_refl _)];rfl
    rw [hz,Bool.true_and] at HSP
    have c2:wr.cell? ⟨w.heap.size,0,none⟩=some (.int .i64 sp):=re1 HW.out (Za3 c1) c1
    clear hz hA c1 hps
    have hs0:(0:Int)<s.size:=by omega
    go_wp2_with (go_at_call 102;refine (Zla s _ (by omega)).mono ?_;rintro e w5 ⟨rfl,hb5⟩;have c3:=re1 hb5 (Za3 c2) c2)
    all_goals
     go_ret
     refine ⟨ZaD ?_,?_⟩
     ·rw [HSP.out]
      simp only [beq_iff_eq,beq_eq_false_iff_ne,ne_eq] at *
      first
       | (rw [Zh5 (by omega)];rfl)
       | (rw [Zh6 (by omega) (by omega)];rfl)
       | (rw [Zf8 (by omega) (by omega)];simp_all;done)
       | (rw [Zf8 (by omega) (by omega)];simp_all;rfl)
     first | exact Below.tr (Below.tr HB2.out HW.out) (by assumption) | exact Below.tr HB2.out HW.out}
def ZmP (L:List ByteArray) (s:ByteArray):Bool:=L.any (fun x=>decide (x=s))
theorem ZsS {L:List ByteArray} {q:Nat} {x s:ByteArray} (h:L.drop q=x::L.drop (q+1)) (hne:x≠s):ZmP (L.drop q) s=ZmP (L.drop (q+1)) s:=by
 unfold ZmP
 rw [h,List.any_cons,decide_eq_false hne,Bool.false_or]
theorem ZwR {L:List ByteArray} {q:Nat} {x s:ByteArray} (h:L.drop q=x::L.drop (q+1)) (he:x=s):ZmP (L.drop q) s=true:=by
 unfold ZmP
 rw [h,List.any_cons,decide_eq_true he,Bool.true_or]
theorem Zrr (A:Option Addr) (n c:Nat) (L:List ByteArray) (s:ByteArray) (w:World) (hS:SlR w A n c L):Calls Tryz.prog 156 #[.slice A n c,.string s] w fun e w'=>e = .returned (.bool (ZmP L s))/\w=w':=by{
have HS:=Lib.hid hS
have hle:=hS.le
have hle2:(n:Int)<=9223372036854775807:=by omega
have HN:=Lib.hid hS.1
clear hS
go_enter Tryz.func156,Tryz.ntmps156
go_wp2
go_loop [5] (fun i=>∃ q:Nat,q<=n/\i = .int .i64 q/\Hid (ZmP L s=ZmP (L.drop q) s)) (fun i=>n-(intOf i).toNat)
case atStart=>exact ⟨0,by omega,rfl,rfl⟩
case round=>
 obtain ⟨q,hq,rfl,hno⟩:=hrel
 by_cases hlt:q<n
 ·have b1:(0:Int)<=q:=by omega
  have b2:(q:Int)<(n:Int):=by omega
  obtain ⟨b,off,x,cs,hA,hbl,hx,hd,hR,hc⟩:=(HS.out).elem hlt
  obtain rfl:=hA
  have d0:w.cell? ⟨b,off+q,none⟩=some (.string x):=by subst hR;simpa using hc 0 _ rfl
  have HD:=Lib.hid hd
  have HX:=Lib.hid hx
  clear hx hd hR hc
  go_wp2
  all_goals (try simp only [beq_iff_eq,beq_eq_false_iff_ne,ne_eq] at *)
  ·have h:x.toList=s.toList:=by assumption
   go_ret
   refine ⟨ZaD ?_,rfl⟩
   rw [hno.out,ZwR HD.out (toList_inj h)]
  have h:¬ x.toList=s.toList:=by assumption
  exact ⟨⟨q+1,by omega,by simp,Lib.hid (hno.out.trans (ZsS HD.out (fun e=>h (by rw [e]))))⟩,by simp [intOf];omega⟩
 ·obtain rfl:q=n:=by omega
  have HE:Hid (ZmP L s=false):=Lib.hid (by rw [hno.out,HN.out,List.drop_length];rfl)
  go_wp2
  go_ret
  exact ⟨ZaD HE.out.symm,rfl⟩}
theorem SlR.strCells {w:World} {A:Option Addr} {n c:Nat} {xs:List ByteArray} (h:SlR w A n c xs) (h0:0<n):∃ b off,A=some ⟨b,off,none⟩/\∀ j,j<xs.length->w.cell? ⟨b,off+j,none⟩=some (.string (xs.getD j ByteArray.empty)):=by{
obtain ⟨b,off,css,hA,_,_,hx⟩:=h.2.2.2 h0
refine ⟨b,off,hA,fun j hj=>?_⟩
obtain ⟨hR,hc⟩:=hx j xs[j] (List.getElem?_eq_getElem hj)
have hR':css j = [.string xs[j]]:=hR
have:=hc 0 _ (by rw [hR'];rfl)
rw [List.getD_eq_getElem?_getD,List.getElem?_eq_getElem hj,Option.getD_some]
simpa using this}
theorem Znn (L:List ByteArray) (s:ByteArray):Lib.containsS L s=ZmP L s:=by
 unfold ZmP
 rw [Bool.eq_iff_iff,Lib.containsS_iff,List.any_eq_true]
 exact ⟨fun h=>⟨s,h,by simp⟩,fun ⟨x,hx,he⟩=>by rw [<- of_decide_eq_true he];exact hx⟩
theorem ZoL (A:Option Addr) (n c:Nat) (L:List ByteArray) (s:ByteArray) (w:World) (hS:SlR w A n c L):Calls Tryz.prog 90 #[.slice A n c,.string s] w fun e w'=>e = .returned (.bool (ZmP L s))/\w'=w:=by{
have hn:=hS.1
have hle:=hS.le
rcases Nat.eq_zero_or_pos n with h0 | h0
subst h0
obtain rfl:L = []:=List.eq_nil_of_length_eq_zero hn.symm
exact Tryz.slices_Contains_string_empty A c s w
obtain ⟨b,off,rfl,hc⟩:=hS.strCells h0
refine (Tryz.slices_Contains_string b off n c L s w (by omega) (by omega) hc).mono ?_
rintro e w' ⟨rfl,rfl⟩
exact ⟨by rw [List.take_of_length_le (by omega),Znn],rfl⟩}
end
section
open VL Go.RowKit
theorem ZsL (t:Title):Zb Tryz.prog 40 [t.pv] (.bool t.valid):=
 Zac (vals:=[.agg #[.int .i64 t.space,.string t.name]]) (by kernel_rfl) rfl rfl (fun x=>.bool _) fun w hw=>ZoU t w hw.1
theorem Zl2 (t:Title):Zb Tryz.prog 49 [t.pv] (.bool t.valid):=
 Zac (vals:=[.agg #[.int .i64 t.space,.string t.name]]) (by kernel_rfl) rfl rfl (fun x=>.bool _) fun w _=>ZjI t w
theorem Zyt (L:List ByteArray) (s:ByteArray):Zb Tryz.prog 156 [Zpf L,.str s] (.bool (ZmP L s)):=
 ZdB (by kernel_rfl) rfl (fun x=>.bool _) fun x vs hp _=>by
  obtain ⟨v,w,rfl,h1,h2⟩:=args2 hp
  obtain rfl:=Znl h2
  obtain ⟨A,n,c,rfl,hS⟩:=ZeE hp.flt h1
  exact (Zrr A n c L s x.W hS).mono fun e w' ⟨e1,e2⟩=>⟨e1,e2 ▸ Below.refl _ _⟩
theorem Zl3 (L:List ByteArray) (s:ByteArray):Zb Tryz.prog 90 [Zpf L,.str s] (.bool (ZmP L s)):=
 ZdB (by kernel_rfl) rfl (fun x=>.bool _) fun x vs hp _=>by
  obtain ⟨v,w,rfl,h1,h2⟩:=args2 hp
  obtain rfl:=Znl h2
  obtain ⟨A,n,c,rfl,hS⟩:=ZeE hp.flt h1
  exact (ZoL A n c L s x.W hS).mono fun e w' ⟨e1,e2⟩=>⟨e1,e2 ▸ Below.refl _ _⟩
end
section
open Go.RowKit
theorem OwnL.drew {α:Type} [Enc α] {w:World} {B:Nat} {E:TypeId} {v:Value} {xs:List α} (h:OwnL w B E v xs):OwnL w.drew B E v xs:=OwnL.keep (Below.refl _ _).drew h
theorem OwnL.al {α:Type} [Enc α] {w:World} {B:Nat} {E:TypeId} {v:Value} {xs:List α} (h:OwnL w B E v xs) (o:Obj):OwnL (w.alloc o) B E v xs:=OwnL.keep (Below.al (Below.refl _ _) _) h
theorem Zio {P:Program} {α:Type} [Enc α] {ops:Array Oper} {o:Oper} {a:Act} {w:World} {K:Act->World->Prop} {Q:Exit->Act->World->Prop} {E0:Prop} (hgd:o.guard=none) (s x:Operand) (t:TypeId)
  (ho:o.op = .call { callee:=.builtin .append,args:=#[s,x],argTypes:=#[t,t] })
  {E:TypeId} {bytes:Nat} (ok:ZkL P t E (Enc.k α) bytes) (hk0:0<Enc.k α) {B:Nat} {v:Value} {xs:List α} (hs:a.eval s=v) (hown:OwnL w B E v xs)
  {A:Option Addr} {m c:Nat} {ys:List α} {S:Nat->Prop} (hx:a.eval x = .slice A m c) (hr:SlS S w A m c ys) (hE:∀ (y:α) (cs:List Value),y ∈ ys->Enc.R S w y cs->Enc.R (fun b=>v.ownBlock≠some b) w y cs)
  (h63:xs.length+m<=maxLen) (hbytes:(xs.length+m) * bytes<=140737488355328) (hbase:B<=w.heap.size)
  (h:∀ v' w',OwnL w' B E v' (xs++ys)->w.grownBy w' v.ownBlock->(v'.ownBlock=v.ownBlock\/v'.ownBlock=some w.heap.size)->K (a.put o.dst v') w') :
  if Region.wanted o (yielded ops a.tmps)=true then Oper.wp P o a w K Q else E0:=by
 have hw:Region.wanted o (yielded ops a.tmps)=true:=by simp [Region.wanted,hgd]
 rw [if_pos hw]
 exact ZkM s x t ho ok hk0 hs hown hx hr hE h63 hbytes hbase h
def Zhj (x:Title):List Value:=[.int .i64 x.space,.string x.name]
def ZbA (t:Title) (q:Nat):List Title:=((List.range q).filter (fun i=>t.name.data.toList[i]? == some 47)).map (fun i=>⟨t.space,t.name.extract 0 i⟩)
def ZhD (t:Title):List Title:=if t.valid then ZbA t t.name.size else []
theorem Zlo {t:Title} {q:Nat} (hq:q<t.name.size) (h:(t.name[q].toNat:Int)=47):ZbA t (q+1)=ZbA t q ++ [⟨t.space,t.name.extract 0 q⟩]:=by{
have h2:t.name.data.toList[q]? = some t.name[q]:=List.getElem?_eq_getElem (by rw [Array.length_toList];exact hq)
have h3:t.name[q]=47:=UInt8.toNat_inj.1 (by show _=47;omega)
have h4:(fun i=>t.name.data.toList[i]? == some 47) q=true:=by show (t.name.data.toList[q]? == some 47)=true;rw [h2,h3];rfl
unfold ZbA
rw [List.range_succ,List.filter_append,List.map_append,List.filter_cons_of_pos (p:=fun i=>t.name.data.toList[i]? == some 47) h4]
rfl}
theorem Zmx {t:Title} {q:Nat} (hq:q<t.name.size) (h:¬ (t.name[q].toNat:Int)=47):ZbA t (q+1)=ZbA t q:=by{
have h2:t.name.data.toList[q]? = some t.name[q]:=List.getElem?_eq_getElem (by rw [Array.length_toList];exact hq)
have h3:¬ t.name[q]=47:=fun e=>h (by rw [e];rfl)
have h4:¬ (fun i=>t.name.data.toList[i]? == some 47) q=true:=by show ¬ (t.name.data.toList[q]? == some 47)=true;rw [h2];simpa using h3
unfold ZbA
rw [List.range_succ,List.filter_append,List.map_append,List.filter_cons_of_neg (p:=fun i=>t.name.data.toList[i]? == some 47) h4]
simp}
theorem Zh7 (t:Title) (q:Nat):(ZbA t q).length<=q:=by
 unfold ZbA
 rw [List.length_map]
 exact Nat.le_trans (List.length_filter_le _ _) (by simp)
theorem Zq8:ZkL Tryz.prog 37 36 (Enc.k Title) 24:=Zwh Tryz.underlying37 (by kernel_rfl)
theorem Znr (t:Title) (w:World) (_:Glob w):Calls Tryz.prog 49 #[.agg #[.int .i64 t.space,.string t.name]] w fun e w'=>e = .returned (.bool t.valid)/\Below w.heap.size w w':=ZjI t w
theorem Zj8 (t:Title) (w:World) (hG:Glob w):Calls Tryz.prog 208 #[.agg #[.int .i64 t.space,.string t.name]] w fun e w'=>∃ v,e = .returned v/\OwnL w' w.heap.size 36 v (ZhD t)/\Below w.heap.size w w':=by{
have HV:Hid (t.valid=true->t.name.size<=100):=Lib.hid fun h=>by
 simp only [Title.valid,Bool.and_eq_true,decide_eq_true_eq] at h
 omega
have HA:Hid (ZhD t=if t.valid then ZbA t t.name.size else []):=Lib.hid rfl
obtain ⟨sp,s⟩:=t
go_enter Tryz.func208,Tryz.ntmps208
go_wp2_with fail
generalize hw1:w.alloc _=w1
have c0_0:w1.cell? ⟨w.heap.size,0,none⟩=some (.int .i64 sp):=by subst hw1;go_simp
have c0_1:w1.cell? ⟨w.heap.size,1,none⟩=some (.string s):=by subst hw1;go_simp
have HB:Hid (Below w.heap.size w w1):=by subst hw1;exact Below.al (Below.refl _ _) _
clear hw1
have HF:Hid (∀ W,Below w1.heap.size w1 W->W.cell? ⟨w.heap.size,0,none⟩=some (.int .i64 sp)/\W.cell? ⟨w.heap.size,1,none⟩=some (.string s)):=fun W h=>⟨re1 h (Za3 c0_0) c0_0,re1 h (Za3 c0_1) c0_1⟩
refine (Znr ⟨sp,s⟩ _ (hG.below HB.out)).mono ?_
rintro e w2 ⟨rfl,hb2⟩
try clear c0_0 c0_1
obtain ⟨c0_0,c0_1⟩:=HF.out _ (hb2)
have HB2:=Lib.hid (Below.tr HB.out hb2)
clear hb2 HB HF
by_cases hv:Title.valid ⟨sp,s⟩=true
case neg=>
 have hv:Title.valid ⟨sp,s⟩=false:=by simpa using hv
 rw [hv] at HA ⊢
 clear hv HV
 go_wp2
 go_ret
 exact ⟨_,rfl,by rw [HA.out];exact OwnL.nil _ _ _,HB2.out⟩
have hs:=HV.out hv
rw [hv] at HA ⊢
clear hv HV
go_wp2_with fail
go_loopw [3,4] (fun l i wr=>∃ q:Nat,q<=s.size/\i = .int .i64 q/\Below w2.heap.size w2 wr/\OwnL wr w2.heap.size 36 l (ZbA ⟨sp,s⟩ q)) (fun _ i _=>s.size-(intOf i).toNat)
case atStart=>exact ⟨0,by omega,rfl,Below.refl _ _,OwnL.nil _ _ _⟩
case round=>
 obtain ⟨q,hq,rfl,hbw,hown⟩:=hrel
 have HQ:=Lib.hid hbw
 have HW:=Lib.hid hown
 have e0:=re1 HQ.out (Za3 c0_0) c0_0
 have e1:=re1 HQ.out (Za3 c0_1) c0_1
 clear hbw hown
 by_cases hlt:q<s.size
 have b1:(0:Int)<=q:=by omega
 have b2:(q:Int)<(s.size:Int):=by omega
 by_cases h47:(s[q].toNat:Int)=47
 ·have hl:=Zh7 ⟨sp,s⟩ q
  have HL:=Lib.hid (Zlo (t:=⟨sp,s⟩) hlt h47)
  have B3:Hid ((ZbA ⟨sp,s⟩ q).length+1<=maxLen):=Lib.hid (by unfold maxLen;omega)
  have B4:Hid (((ZbA ⟨sp,s⟩ q).length+1) * 24<=140737488355328):=Lib.hid (by omega)
  have hg:w2.heap.size<=wr.heap.size:=HQ.out.size
  clear hl
  generalize ZbA ⟨sp,s⟩ q=L at *
  go_upto_region 8 with fail
  go_region_law (refine Zio rfl _ _ 37 rfl Zq8 (by decide) (B:=w2.heap.size) (v:=u3) (xs:=L) rfl (by first | exact HW.out.drew.al _ | exact (HW.out.al _).drew) (S:=fun _=>True) (ys:=[(⟨sp,s.extract 0 q⟩:Title)]) rfl (by first | exact SlR.made Zhj (fun _ _ _=>rfl) _ _ (xs:=[(⟨sp,s.extract 0 q⟩:Title)]) rfl rfl (show 1<=9223372036854775807 by omega) rfl | exact SlR.drew (SlR.made Zhj (fun _ _ _=>rfl) _ _ (xs:=[(⟨sp,s.extract 0 q⟩:Title)]) rfl rfl (show 1<=9223372036854775807 by omega) rfl)) (fun _ _ _ h=>h) B3.out B4.out (by simp;omega) ?_;intro v' w' hown hg2 hv')
  all_goals
   go_wp2
   refine ⟨⟨q+1,by omega,by go_num,?_,by rw [HL.out];exact hown⟩,by simp [intOf];omega⟩
   refine Below.grown ?_ hg2 (by simp;omega) (fun j hj=>HW.out.ge hj)
   exact (HQ.out.alloc hg _).drew
 ·have HL:=Lib.hid (Zmx (t:=⟨sp,s⟩) hlt h47)
  go_wp2
  go_roundw
  case rel=>exact ⟨q+1,by omega,by go_num,HQ.out,by rw [HL.out];exact HW.out⟩
  case measure=>simp [intOf];omega
 ·obtain rfl:q=s.size:=by omega
  go_wp2
  go_ret
  refine ⟨_,rfl,?_,Below.tr HB2.out HQ.out⟩
  rw [HA.out,if_pos trivial]
  exact HW.out.base HB2.out.size}
theorem Zns (t:Title) (w:World) (hG:Glob w):Calls Tryz.prog 145 #[.agg #[.int .i64 t.space,.string t.name]] w fun e w'=>∃ v,e = .returned v/\OwnL w' w.heap.size 36 v (ZhD t)/\Below w.heap.size w w':=by{
have HV:Hid (t.valid=true->t.name.size<=100):=Lib.hid fun h=>by
 simp only [Title.valid,Bool.and_eq_true,decide_eq_true_eq] at h
 omega
have HA:Hid (ZhD t=if t.valid then ZbA t t.name.size else []):=Lib.hid rfl
obtain ⟨sp,s⟩:=t
go_enter Tryz.func145,Tryz.ntmps145
go_wp2_with fail
generalize hw1:w.alloc _=w1
have c0_0:w1.cell? ⟨w.heap.size,0,none⟩=some (.int .i64 sp):=by subst hw1;go_simp
have c0_1:w1.cell? ⟨w.heap.size,1,none⟩=some (.string s):=by subst hw1;go_simp
have HB:Hid (Below w.heap.size w w1):=by subst hw1;exact Below.al (Below.refl _ _) _
clear hw1
have HF:Hid (∀ W,Below w1.heap.size w1 W->W.cell? ⟨w.heap.size,0,none⟩=some (.int .i64 sp)/\W.cell? ⟨w.heap.size,1,none⟩=some (.string s)):=fun W h=>⟨re1 h (Za3 c0_0) c0_0,re1 h (Za3 c0_1) c0_1⟩
refine (ZoU ⟨sp,s⟩ _ (hG.below HB.out)).mono ?_
rintro e w2 ⟨rfl,hb2⟩
try clear c0_0 c0_1
obtain ⟨c0_0,c0_1⟩:=HF.out _ (hb2)
have HB2:=Lib.hid (Below.tr HB.out hb2)
clear hb2 HB HF
by_cases hv:Title.valid ⟨sp,s⟩=true
case neg=>
 have hv:Title.valid ⟨sp,s⟩=false:=by simpa using hv
 rw [hv] at HA ⊢
 clear hv HV
 go_wp2
 go_ret
 exact ⟨_,rfl,by rw [HA.out];exact OwnL.nil _ _ _,HB2.out⟩
have hs:=HV.out hv
rw [hv] at HA ⊢
clear hv HV
go_wp2_with fail
go_loopw [3,4] (fun l i wr=>∃ q:Nat,q<=s.size/\i = .int .i64 q/\Below w2.heap.size w2 wr/\OwnL wr w2.heap.size 36 l (ZbA ⟨sp,s⟩ q)) (fun _ i _=>s.size-(intOf i).toNat)
case atStart=>exact ⟨0,by omega,rfl,Below.refl _ _,OwnL.nil _ _ _⟩
case round=>
 obtain ⟨q,hq,rfl,hbw,hown⟩:=hrel
 have HQ:=Lib.hid hbw
 have HW:=Lib.hid hown
 have e0:=re1 HQ.out (Za3 c0_0) c0_0
 have e1:=re1 HQ.out (Za3 c0_1) c0_1
 clear hbw hown
 by_cases hlt:q<s.size
 have b1:(0:Int)<=q:=by omega
 have b2:(q:Int)<(s.size:Int):=by omega
 by_cases h47:(s[q].toNat:Int)=47
 ·have hl:=Zh7 ⟨sp,s⟩ q
  have HL:=Lib.hid (Zlo (t:=⟨sp,s⟩) hlt h47)
  have B3:Hid ((ZbA ⟨sp,s⟩ q).length+1<=maxLen):=Lib.hid (by unfold maxLen;omega)
  have B4:Hid (((ZbA ⟨sp,s⟩ q).length+1) * 24<=140737488355328):=Lib.hid (by omega)
  have hg:w2.heap.size<=wr.heap.size:=HQ.out.size
  clear hl
  generalize ZbA ⟨sp,s⟩ q=L at *
  go_upto_region 8 with fail
  go_region_law (refine Zio rfl _ _ 37 rfl Zq8 (by decide) (B:=w2.heap.size) (v:=u3) (xs:=L) rfl (by first | exact HW.out.drew.al _ | exact (HW.out.al _).drew) (S:=fun _=>True) (ys:=[(⟨sp,s.extract 0 q⟩:Title)]) rfl (by first | exact SlR.made Zhj (fun _ _ _=>rfl) _ _ (xs:=[(⟨sp,s.extract 0 q⟩:Title)]) rfl rfl (show 1<=9223372036854775807 by omega) rfl | exact SlR.drew (SlR.made Zhj (fun _ _ _=>rfl) _ _ (xs:=[(⟨sp,s.extract 0 q⟩:Title)]) rfl rfl (show 1<=9223372036854775807 by omega) rfl)) (fun _ _ _ h=>h) B3.out B4.out (by simp;omega) ?_;intro v' w' hown hg2 hv')
  all_goals
   go_wp2
   refine ⟨⟨q+1,by omega,by go_num,?_,by rw [HL.out];exact hown⟩,by simp [intOf];omega⟩
   refine Below.grown ?_ hg2 (by simp;omega) (fun j hj=>HW.out.ge hj)
   exact (HQ.out.alloc hg _).drew
 ·have HL:=Lib.hid (Zmx (t:=⟨sp,s⟩) hlt h47)
  go_wp2
  go_roundw
  case rel=>exact ⟨q+1,by omega,by go_num,HQ.out,by rw [HL.out];exact HW.out⟩
  case measure=>simp [intOf];omega
 ·obtain rfl:q=s.size:=by omega
  go_wp2
  go_ret
  refine ⟨_,rfl,?_,Below.tr HB2.out HQ.out⟩
  rw [HA.out,if_pos trivial]
  exact HW.out.base HB2.out.size}
def ZdO (a b:Scope):Bool:=decide (a.kind=b.kind)&&(if a.kind=3 then decide (a.title=b.title) else if a.kind=2 then decide (a.title.space=b.title.space) else true)
theorem Zq5 {a b:Scope} (h:¬ a.kind=b.kind):ZdO a b=false:=by unfold ZdO;rw [decide_eq_false h,Bool.false_and]
theorem Znk {a b:Scope} (h:a.kind=b.kind) (h3:a.kind=3):ZdO a b=decide (a.title=b.title):=by unfold ZdO;rw [decide_eq_true h,if_pos h3,Bool.true_and]
theorem ZtD {a b:Scope} (h:a.kind=b.kind) (h3:a.kind=2):ZdO a b=decide (a.title.space=b.title.space):=by unfold ZdO;rw [decide_eq_true h,if_neg (by omega),if_pos h3,Bool.true_and]
theorem ZtE {a b:Scope} (h:a.kind=b.kind) (h3:¬ a.kind=3) (h2:¬ a.kind=2):ZdO a b=true:=by unfold ZdO;rw [decide_eq_true h,if_neg h3,if_neg h2,Bool.true_and]
theorem Zp7 (a b:Scope) (w:World):Calls Tryz.prog 157 #[.agg #[.int .i64 a.kind,.int .i64 a.title.space,.string a.title.name],.agg #[.int .i64 b.kind,.int .i64 b.title.space,.string b.title.name]] w fun e w'=>e = .returned (.bool (ZdO a b))/\Below w.heap.size w w':=by{
have HD:Hid (∀ x y:Title,x=y↔x.space=y.space/\x.name.toList=y.name.toList):=Lib.hid fun x y=>by
 obtain ⟨x1,x2⟩:=x
 obtain ⟨y1,y2⟩:=y
 simp only [Title.mk.injEq,ZbX]
have HB:Hid (∀ o1 o2,Below w.heap.size w ((w.alloc o1).alloc o2)):=Lib.hid fun o1 o2=>Below.al (Below.al (Below.refl _ _) _) _
go_enter Tryz.func157,Tryz.ntmps157
go_wp2
all_goals (try simp only [beq_iff_eq,beq_eq_false_iff_ne,bne_iff_ne,bne_eq_false_iff_eq,ne_eq] at *)
all_goals
 go_ret
 refine ⟨ZaD ?_,HB.out _ _⟩
 first
 | (rw [Zq5 (by assumption)];done)
 | (rw [ZtE (by assumption) (by assumption) (by assumption)];done)
 | (rw [ZtD (by assumption) (by assumption)];first | rfl | simp_all)
 | (rw [Znk (by assumption) (by assumption)];refine (decide_eq_true ?_).symm;rw [HD.out];constructor<;>assumption)
 | (rw [Znk (by assumption) (by assumption)];refine (decide_eq_false ?_).symm;rw [HD.out];rintro ⟨h1,h2⟩;first | (exact absurd h1 (by assumption)) | (exact absurd h2 (by assumption)))}
theorem Zsc (a b:Scope) (w:World):Calls Tryz.prog 91 #[.agg #[.int .i64 a.kind,.int .i64 a.title.space,.string a.title.name],.agg #[.int .i64 b.kind,.int .i64 b.title.space,.string b.title.name]] w fun e w'=>e = .returned (.bool (ZdO a b))/\Below w.heap.size w w':=by{
have HD:Hid (∀ x y:Title,x=y↔x.space=y.space/\x.name.toList=y.name.toList):=Lib.hid fun x y=>by
 obtain ⟨x1,x2⟩:=x
 obtain ⟨y1,y2⟩:=y
 simp only [Title.mk.injEq,ZbX]
have HB:Hid (∀ o1 o2,Below w.heap.size w ((w.alloc o1).alloc o2)):=Lib.hid fun o1 o2=>Below.al (Below.al (Below.refl _ _) _) _
go_enter Tryz.func91,Tryz.ntmps91
go_wp2
all_goals (try simp only [beq_iff_eq,beq_eq_false_iff_ne,bne_iff_ne,bne_eq_false_iff_eq,ne_eq] at *)
all_goals
 go_ret
 refine ⟨ZaD ?_,HB.out _ _⟩
 first
 | (rw [Zq5 (by assumption)];done)
 | (rw [ZtE (by assumption) (by assumption) (by assumption)];done)
 | (rw [ZtD (by assumption) (by assumption)];first | rfl | simp_all)
 | (rw [Znk (by assumption) (by assumption)];refine (decide_eq_true ?_).symm;rw [HD.out];constructor<;>assumption)
 | (rw [Znk (by assumption) (by assumption)];refine (decide_eq_false ?_).symm;rw [HD.out];rintro ⟨h1,h2⟩;first | (exact absurd h1 (by assumption)) | (exact absurd h2 (by assumption)))}
end
section
open VL Go.RowKit
theorem ZoA (a b:Scope):Zb Tryz.prog 157 [a.pv,b.pv] (.bool (ZdO a b)):=
 Zac (vals:=[.agg #[.int .i64 a.kind,.int .i64 a.title.space,.string a.title.name],.agg #[.int .i64 b.kind,.int .i64 b.title.space,.string b.title.name]]) (by kernel_rfl) rfl rfl (fun x=>.bool _) fun w _=>Zp7 a b w
theorem Zvl (a b:Scope):Zb Tryz.prog 91 [a.pv,b.pv] (.bool (ZdO a b)):=
 Zac (vals:=[.agg #[.int .i64 a.kind,.int .i64 a.title.space,.string a.title.name],.agg #[.int .i64 b.kind,.int .i64 b.title.space,.string b.title.name]]) (by kernel_rfl) rfl rfl (fun x=>.bool _) fun w _=>Zsc a b w
end
section
open VL
def Zaz (s:ByteArray):Option Bool:=some (Za0 s)
theorem ZaZ (s:ByteArray) (r:Bool) (h:Zaz s=some r):Zb Tryz.prog 103 [.str s] (.bool r):=by cases h;exact ZnC s _ (ZoO s)
def Zb0 (s:ByteArray):Option Bool:=some (Za0 s)
theorem ZcN (s:ByteArray) (r:Bool) (h:Zb0 s=some r):Zb Tryz.prog 41 [.str s] (.bool r):=by cases h;exact Zj9 s _ (ZtL s)
def Za9 (t:Title):Option Bool:=some t.valid
theorem Zbq (t:Title) (r:Bool) (h:Za9 t=some r):Zb Tryz.prog 49 [t.pv] (.bool r):=by cases h;exact Zl2 t
def Zdh (t:Title):Option Bool:=some t.valid
theorem Zec (t:Title) (r:Bool) (h:Zdh t=some r):Zb Tryz.prog 40 [t.pv] (.bool r):=by cases h;exact ZsL t
def ZpS (L:List ByteArray) (s:ByteArray):Option Bool:=some (ZmP L s)
theorem Zoz (L:List ByteArray) (s:ByteArray) (r:Bool) (h:ZpS L s=some r):Zb Tryz.prog 156 [.sl (List.map csS L),.str s] (.bool r):=by cases h;exact Zyt L s
def slices_Contains_string (L:List ByteArray) (s:ByteArray):Option Bool:=some (ZmP L s)
theorem Zbr (L:List ByteArray) (s:ByteArray) (r:Bool) (h:slices_Contains_string L s=some r):Zb Tryz.prog 90 [.sl (List.map csS L),.str s] (.bool r):=by cases h;exact Zl3 L s
def Zfu (a b:Title):Option Int:=some (Title.cmp a b)
theorem ZeY (a b:Title) (r:Int) (h:Zfu a b=some r):Zb Tryz.prog 117 [a.pv,b.pv] (.int .i64 r):=by
 cases h
 exact Zac (vals:=[.agg #[.int .i64 a.space,.string a.name],.agg #[.int .i64 b.space,.string b.name]]) (by kernel_rfl) rfl rfl (fun x=>.int _ _) fun w _=>Zh2 a b w
end
namespace VL
theorem ZbJ {p q:Prop} (k:q) (h:q->p:=by
 (intro k)
 (first
  | refine ZqP rfl (by (conv=>lhs;whnf);try rfl) ?_
  | refine Zmb rfl rfl rfl ?_
  | refine ZfO rfl rfl ?_
  | refine Zkg rfl (by (conv=>lhs;whnf);try rfl) ?_
  | refine ZrE rfl rfl rfl rfl (by (conv=>lhs;whnf);try rfl) ?_
  | refine Zu3 rfl rfl rfl rfl (by (conv=>lhs;whnf);try rfl) ?_
  | refine Zv1 rfl rfl ?_
  | refine Zjk rfl rfl ?_
  | refine Zrf rfl rfl ?_
  | refine Zre rfl rfl rfl rfl ?_
  | refine Zzv rfl rfl rfl (by decide) ?_
  | refine ZyR rfl rfl ?_
  | refine Zu2 rfl (by (conv=>lhs;whnf);try rfl) (by (conv=>lhs;whnf);try rfl) (by rfl) ?_
  | refine ZkR rfl rfl ?_
  | refine ZkS rfl rfl rfl (by (conv=>lhs;whnf);try rfl) (by (conv=>lhs;whnf);try rfl) (by rfl) (by rfl) (Nat.le_of_ble_eq_true rfl) (by (conv=>lhs;whnf);try rfl) ?_
  | refine ZhP rfl rfl ?_
  | refine ZjL rfl rfl rfl (by rfl) (by decide) (by (conv=>lhs;whnf);try rfl) ?_
  | refine Zin rfl rfl rfl ?_
  | refine Zu4 rfl rfl ?_
  | refine ZqQ rfl rfl (by (conv=>lhs;whnf);try rfl) ?_
  | refine Zm0 rfl rfl rfl ?_
  | refine Zm1 ?_
  | refine Zm2 (by kernel_rfl) ?_
  | refine ZnP ?_
  | refine Zm ?_
  | refine ZaP ?_
  | refine Zkq ?_
  | refine ZnQ ?_
  | refine Zkr ?_
  | refine ZnO ?_
  | refine ZnR ?_
  | refine Zrg ?_
  | refine ZiX ?_
  | refine ZnS ?_
  | refine Zrh ?_)
 (exact k)):p:=h k
open Go.RowKit Go.Sort
section
variable {α:Type} [Inhabited α]
theorem Zjb (enc:α->List Value) (k:Nat) (hk:∀ x,(enc x).length=k) (M:List α):(flatK enc k M.toArray).toList=M.flatMap enc:=by{
have hlen:(M.flatMap enc).length=M.length * k:=by
 induction M with
 | nil=>simp
 | cons x M ih=>simp [List.flatMap_cons,hk,ih,Nat.succ_mul];omega
apply List.ext_getElem?
intro t
by_cases ht:t<M.length * k
have hk0:0<k:=by rcases Nat.eq_zero_or_pos k with h | h
                 subst h;simp at ht
                 exact h
have hi:t / k<M.length:=Nat.div_lt_of_lt_mul (by rw [Nat.mul_comm];exact ht)
have hj:t % k<k:=Nat.mod_lt _ hk0
have e:=ZmT enc k hk M (t / k) M[t / k] (t % k) ((enc M[t / k])[t % k]'(by rw [hk];exact hj)) (List.getElem?_eq_getElem hi) (List.getElem?_eq_getElem (by rw [hk];exact hj))
rw [Nat.mul_comm (t / k) k,Nat.div_add_mod] at e
rw [e]
have h1:t<(flatK enc k M.toArray).size:=by rw [size_flatK];simpa using ht
have h2:=get_flatK enc k M.toArray t (by simpa using ht)
rw [getElem!_pos _ t h1] at h2
rw [Array.getElem?_toList,Array.getElem?_eq_getElem h1,h2,getElem!_pos M.toArray (t / k) (by simpa using hi)]
simp only [List.getElem_toArray]
rw [getElem!_pos (enc M[t / k]) (t % k) (by rw [hk];exact hj)]
rw [List.getElem?_eq_none (l:=(flatK enc k M.toArray).toList) (by simp;omega),List.getElem?_eq_none (l:=M.flatMap enc) (by rw [hlen];omega)]}
theorem Zrv (enc:α->List Value) (k:Nat) (hk:∀ x,(enc x).length=k) {w:World} {g:Nat} {cur:Array Value} {E:TypeId} {L:List α} (hb:w.heap[g]? = some (.cells cur E (0,0))) (ht:cur.toList.take (L.length * k)=L.flatMap enc):HoldsK enc k w g 0 L.toArray:=by{
intro j hj
have hj':j<L.length * k:=by simpa using hj
refine ⟨?_,by simp [World.frozen?,hb]⟩
have h1:(cur.toList.take (L.length * k))[j]? = (flatK enc k L.toArray).toList[j]?:=by rw [ht,Zjb enc k hk]
rw [List.getElem?_take_of_lt hj'] at h1
simp only [World.cell?,hb,Nat.zero_add]
simp only [Option.isSome_none,Bool.false_eq_true,if_false]
rw [<- Array.getElem?_toList,h1,Array.getElem?_toList,Array.getElem?_eq_getElem hj,getElem!_pos _ j hj]
rfl}
theorem Zpz (enc:α->List Value) (k:Nat) (hk:∀ x,(enc x).length=k) {w:World} {g cap n:Nat} {cur:Array Value} {E:TypeId} {M:List α} (hb:w.heap[g]? = some (.cells cur E (0,0))) (h1:M.length<=cap) (h2:cap<=maxLen) (h3:cur.size=cap * k) :
  (putRowK enc k (Sort.ahead w n) g 0 M.toArray).ownsRow 0 E k (.slice (some ⟨g,0,none⟩) M.length cap) M.length (M.flatMap enc)/\Gr (fun b=>blk (.slice (some ⟨g,0,none⟩) M.length cap)=some b) w (putRowK enc k (Sort.ahead w n) g 0 M.toArray):=by{
have hg:g<w.heap.size:=(Array.getElem?_eq_some_iff.1 hb).1
have hh:(putRowK enc k (Sort.ahead w n) g 0 M.toArray).heap[g]? = some (.cells (putCells id 0 (flatK enc k M.toArray) cur) E (0,0)):=by
 simp [putRowK,putRow,mapBlock,Sort.ahead,Array.getElem?_modify,hb,onCells]
have hlen:(M.flatMap enc).length=M.length * k:=by rw [<- Zjb enc k hk M];simp
refine ⟨⟨hlen,.inr ⟨g,cap,_,rfl,Nat.zero_le _,hh,h1,h2,by simp [putCells,h3],?_⟩⟩,rfl,rfl,rfl,by simp [putRowK,putRow,mapBlock,Sort.ahead],fun b hb' hne=>?_⟩
rw [<- Zjb enc k hk M]
have hle:M.length * k<=cur.size:=by rw [h3];exact Nat.mul_le_mul_right _ h1
apply List.ext_getElem?
intro j
by_cases hj:j<M.length * k
rw [List.getElem?_take_of_lt hj,Array.getElem?_toList,Array.getElem?_toList]
simp [putCells,hj,show j<cur.size by omega]
rw [List.getElem?_take_eq_none (by omega),List.getElem?_eq_none (by simp;omega)]
have:g≠b:=fun e=>hne (by rw [e];rfl)
simp [putRowK,putRow,mapBlock,Sort.ahead,Array.getElem?_modify,this]}
end
theorem Zik:∀ {a b:List PV} {va vb:List Value},Zbc a=some va->Zbc b=some vb->Zbc (a++b)=some (va++vb)
 | [],b,va,vb,h,k=>by
   injection h with h
   subst h
   exact k
 | p::a,b,va,vb,h,k=>by
   simp only [Zbc] at h
   split at h
   rename_i v vs h1 h2
   injection h with h
   subst h
   simp only [List.cons_append,Zbc]
   rw [h1,Zik h2 k]
   cases h
theorem Zdb {α:Type} {cs:α->List PV} {enc:α->List Value} (h:∀ x,Zbc (cs x)=some (enc x)):∀ (xs:List α),Zbc (xs.map cs).flatten=some (xs.flatMap enc)
 | []=>rfl
 | x::xs=>by
   rw [List.map_cons,List.flatten_cons,List.flatMap_cons]
   exact Zik (h x) (Zdb h xs)
section
variable {P:Program} [WInv P]
theorem Zhu {α:Type} [Enc α] [EncPV α] {f:FuncId} {args:List PV} {vals:List Value} {E:TypeId} {xs:List α} {enc:α->List Value} (hg:isGo P f=true) (hp:∀ (x:Ctx) (vs:Array Value),Pre x args none vs->vs=vals.toArray) (hpl:∀ x:α,Zbc (EncPV.cs x)=some (enc x))
  (hE:∀ (S:Nat->Prop) (w:World) (x:α) (cs:List Value),Enc.R S w x cs->cs=enc x) (hk:∀ x:α,(EncPV.cs x).length=Enc.k α)
  (h:∀ w,(∀ W,Below w.heap.size w W->WInv.I P W)->Calls P f vals.toArray w fun e w'=>∃ v,e = .returned v/\OwnL w' w.heap.size E v xs/\Below w.heap.size w w'):ContractN P f args (.row E (Enc.k α) false (xs.map EncPV.cs)):=by{
refine ⟨hg,⟨fun cs h=>(by cases h),fun E k els h=>(by cases h)⟩,fun x vs hpre hI=>?_⟩
obtain rfl:vs=vals.toArray:=hp x vs hpre
refine (h x.W fun W hW=>hI W ⟨hW.os,hW.tape,hW.output,hW.size,fun b hb _=>hW.block b hb⟩).mono ?_
rintro _ w' ⟨v,rfl,⟨css,hl,hown,hR⟩,hb⟩
let y:Ctx:=⟨fun g=>g=(0,0),x.F,w',fun _=>v⟩
have hcss:css.flatten=xs.flatMap enc:=by
 have:css=xs.map enc:=by
  apply List.ext_getElem?
  intro i
  by_cases hi:i<xs.length
  have h1:xs[i]? = some xs[i]:=List.getElem?_eq_getElem hi
  have h2:css[i]? = some css[i]:=List.getElem?_eq_getElem (by omega)
  rw [h2,List.getElem?_map,h1,hE _ _ _ _ (hR i _ _ h1 h2)]
  rfl
  rw [List.getElem?_eq_none (by omega),List.getElem?_eq_none (by simp;omega)]
 rw [this]
 rfl
have hpure:∀ e ∈ xs.map EncPV.cs,∀ p ∈ e,p.pure=true:=fun e he p hpm=>by
 obtain ⟨z,_,rfl⟩:=List.mem_map.1 he
 obtain ⟨j,hj⟩:=List.getElem?_of_mem hpm
 have:=ZfD (hpl z) hj
 obtain ⟨r,_,_⟩:=this
 have:∀ (l:List PV) {vs:List Value},Zbc l=some vs->∀ p ∈ l,p.pure=true:=fun l=>by
  induction l with
  | nil=>intro vs _ p hp;cases hp
  | cons q l ih=>
    intro vs hq p hp
    simp only [Zbc] at hq
    split at hq
    rename_i v1 vs1 h1 h2
    rcases List.mem_cons.1 hp with rfl | hp
    cases p<;>simp_all [ZiM,PV.pure]
    exact ih h2 p hp
    cases hq
 exact this _ (hpl z) p hpm
refine ⟨y,v,rfl,rfl,⟨fun g hg=>?_,fun _ _ h=>h,fun b o v hF hv=>(World.cell?_of_block (hb.block b (hpre.flt b o hF))).trans hv⟩,Gr.ofBelow hb,fun _ _ h=>.inl h,fun b o hF=>Nat.lt_of_lt_of_le (hpre.flt b o hF) hb.size,(0,0),rfl,fun e he=>?_,hpure,css.flatten,?_,fun m p w hm hw=>?_,fun b hbk=>?_⟩
obtain ⟨j,os,h,_⟩:=hpre.gen g hg
cases h
obtain ⟨z,_,rfl⟩:=List.mem_map.1 he
exact hk z
rw [List.length_map]
exact ⟨hown.1,hown.2.imp id fun ⟨g,cap,cur,h1,h2,h3⟩=>⟨g,cap,cur,h1,Nat.zero_le _,h3⟩⟩
obtain ⟨r,h1,h2⟩:=ZfD (Zdb hpl xs) hm
rw [hcss,h1] at hw
injection hw with hw
subst hw
rw [<- h2]
exact ZiU y r
have hB:x.W.heap.size<=b:=by
 change blk v=some b at hbk
 rcases hown.2 with ⟨hn,_⟩ | ⟨b',cap,cur,hv,hB,_⟩
 rw [hn] at hbk
 simp [blk] at hbk
 rw [hv] at hbk
 obtain rfl:b'=b:=by simpa [blk] using hbk
 exact hB
exact ⟨.inl hB,fun o hF=>by
 have h1:=hpre.flt b o hF
 omega⟩}
theorem ZlG {α:Type} [Enc α] [EncPV α] {f:FuncId} {args:List PV} {vals:List Value} {E:TypeId} {xs:List α} {enc:α->List Value} (hg:isGo P f=true) (hp:∀ (x:Ctx) (vs:Array Value),Pre x args none vs->vs=vals.toArray) (hpl:∀ x:α,Zbc (EncPV.cs x)=some (enc x))
  (hE:∀ (S:Nat->Prop) (w:World) (x:α) (cs:List Value),Enc.R S w x cs->cs=enc x) (hk:∀ x:α,(EncPV.cs x).length=Enc.k α)
  (h:∀ w,WInv.I P w->Calls P f vals.toArray w fun e w'=>∃ v,e = .returned v/\OwnL w' w.heap.size E v xs/\Below w.heap.size w w'):ContractN P f args (.row E (Enc.k α) false (xs.map EncPV.cs)):=
 Zhu hg hp hpl hE hk fun w hw=>h w (hw w (Below.refl _ _))
theorem Zeb {α:Type} [Enc α] [EncPV α] {f:FuncId} {args:List PV} {vals:List Value} {E:TypeId} {xs:List α} {enc:α->List Value} (hg:isGo P f=true) (hp:Zmu args=some vals) (hpl:∀ x:α,Zbc (EncPV.cs x)=some (enc x))
  (hE:∀ (S:Nat->Prop) (w:World) (x:α) (cs:List Value),Enc.R S w x cs->cs=enc x) (hk:∀ x:α,(EncPV.cs x).length=Enc.k α)
  (h:∀ w,WInv.I P w->Calls P f vals.toArray w fun e w'=>∃ v,e = .returned v/\OwnL w' w.heap.size E v xs/\Below w.heap.size w w'):ContractN P f args (.row E (Enc.k α) false (xs.map EncPV.cs)):=by
 refine ZlG (vals:=vals) hg (fun x vs hpre=>?_) hpl hE hk h
 have e:vs.toList=vals:=Zju args hp vs.toList (by simpa using hpre.size) fun i p v hp hv=>hpre.rep i p v hp (by simpa using hv)
 rw [<- e]
end
end VL
section
open VL Go.RowKit
def Zdw (x:Title):List Value:=[.int .i64 x.space,.string x.name]
theorem Zel (x:Title):Zbc (Title.cs x)=some (Zdw x):=rfl
instance:EncPV Title:=⟨Title.cs,fun w x vs h=>by
 have h':vs=Zdw x:=h
 subst h'
 refine ⟨rfl,fun j p v hp hv=>?_⟩
 obtain ⟨r,h1,h2⟩:=ZfD (Zel x) hp
 rw [h1] at hv
 injection hv with hv
 subst hv
 match j,hp with
 | 0,hp=>injection hp with hp;subst hp;injection h1 with h1;subst h1;exact ⟨rfl,.int .i64 _⟩
 | 1,hp=>injection hp with hp;subst hp;injection h1 with h1;subst h1;exact ⟨rfl,.str _⟩⟩
end
section
open Go.RowKit
def Zg9:List Title->List Scope | []=>[] | a::r=>Zg9 r ++ [⟨3,a⟩]
def ZJ (t:Title):List Scope:=[⟨3,t⟩]++Zg9 (ZhD t) ++ [⟨2,⟨t.space,⟨#[]⟩⟩⟩,⟨1,⟨0,⟨#[]⟩⟩⟩]
theorem Zgw:∀ l,(Zg9 l).length=l.length
 | []=>rfl
 | a::r=>by simp [Zg9,Zgw r]
theorem Zki (t:Title):(ZhD t).length<=100:=by{
unfold ZhD
split
rename_i h
have:=Zh7 t t.name.size
simp only [Title.valid,Bool.and_eq_true,decide_eq_true_eq] at h
omega
simp}
end
section
open VL Go.RowKit
theorem ZpD (t:Title):ContractN Tryz.prog 145 [t.pv] (.row 36 2 false ((ZhD t).map Title.cs)):=
 Zeb (vals:=[.agg #[.int .i64 t.space,.string t.name]]) (enc:=Zdw) (by kernel_rfl) rfl Zel (fun S w x cs h=>h) (fun x=>rfl) fun w hw=>Zns t w hw.1
instance:Inhabited Title:=⟨⟨0,⟨#[]⟩⟩⟩
theorem Zs0 (M:List Title):ContractM Tryz.prog 146 36 2 (M.map Title.cs) (M.reverse.map Title.cs):=by{
have hk:∀ x,(Zdw x).length=2:=fun _=>rfl
refine ⟨by kernel_rfl,fun e he=>?_,fun e he p hp=>?_,by rw [Zdb Zel];rfl,fun W v vs hown hvs _=>?_⟩
obtain ⟨x,_,rfl⟩:=List.mem_map.1 he
rfl
obtain ⟨x,_,rfl⟩:=List.mem_map.1 he
simp [Title.cs] at hp
rcases hp with rfl | rfl<;>rfl
rw [Zdb Zel] at hvs
injection hvs with hvs
subst hvs
rw [List.length_map] at hown
rcases hown.2 with ⟨hn,h0⟩ | ⟨g,cap,cur,hv,hB,hh,h1,h2,h3,ht⟩
obtain rfl:M = []:=List.eq_nil_of_length_eq_zero h0
subst hn
refine (AnyQ.slices_Reverse_empty Tryz.reverseTitle none 0 W).mono ?_
rintro e w' ⟨rfl,rfl⟩
exact ⟨[],rfl,rfl,World.ownsRow_nil _ _ _ _,Gr.refl _ _⟩
subst hv
have hH:=Zrv Zdw 2 hk hh ht
have hle:M.toArray.size<=9223372036854775807:=by unfold maxLen at h2;simp;omega
have:=AnyQ.slices_Reverse Tryz.reverseTitle 2 Tryz.isAgg36 Tryz.sizeOf36 Zdw hk (fun x v hv=>by simp [Zdw] at hv;rcases hv with rfl | rfl<;>rfl) g 0 cap M.toArray W hH hle
refine Calls.mono this ?_
rintro e w' ⟨rfl,n,rfl⟩
have hr:M.toArray.reverse=M.reverse.toArray:=by simp
rw [hr]
obtain ⟨o1,o2⟩:=Zpz (n:=n) Zdw 2 hk (M:=M.reverse) hh (by simpa using h1) h2 h3
rw [List.length_reverse] at o1 o2
refine ⟨M.reverse.flatMap Zdw,rfl,Zdb Zel _,?_,?_⟩
rw [List.length_map,List.length_reverse]
exact o1
exact o2}
end
section
open VL
theorem Zs1:∀ l:List Title,Zg9 l=l.reverse.map fun a=>(⟨3,a⟩:Scope)
 | []=>rfl
 | a::r=>by simp [Zg9,Zs1 r]
theorem ZuV (t:Title):Zb Tryz.prog 89 [t.pv] (.sl ((ZJ t).map Scope.cs)):=by{
have hlen:=Zki t
refine Zbe mix Tryz.func89 (by kernel_rfl) rfl (by kernel_rfl) ?_
repeat (first | (refine Zqw (ZpD t) rfl rfl ?_) | (refine Zua (Zs0 _) rfl rfl rfl ?_) | refine ZaB rfl rfl (by omega) ?_ | refine Zaw rfl rfl rfl (by omega) (by omega) ?_ | refine g_dec rfl rfl rfl (by omega) ?_ | refine Zas rfl rfl rfl (by omega) (by omega) ?_ | refine ZbJ ?_ | refine ZK Tryz.underlying9 rfl rfl ?_)
refine Zi (α:=Nat) (fun i _=>mkS [(1,.ptr 1 (1,1) 0),(3,.row 9 (1,9)),(14,.sl ((ZhD t).reverse.map Title.cs)),(15,.int .i64 ((ZhD t).length:Int)),(16,.int .i64 ((i:Nat):Int))]
  [(1,some ((1,1),.box t.cs)),(9,some ((1,9),.row 133 3 false ((⟨3,t⟩::((ZhD t).reverse.take i).map fun a=>(⟨3,a⟩:Scope)).map Scope.cs)))] 2)
 (fun i=>i<=(ZhD t).length) (fun i=>(ZhD t).length-i) 0 2 (Nat.zero_le _)
 (Shift.trans (Zjn 14 rfl rfl) (Zu [((1,1),_),((1,9),_)] ⟨rfl,rfl,rfl,?_,rfl,trivial⟩ ⟨⟨rfl,rfl⟩,⟨rfl,rfl⟩,trivial⟩ rfl)) (fun i _ (hi:i<=(ZhD t).length)=>?_)
show some (PV.int .i64 ((ZhD t).length:Int))=some (PV.int .i64 (((ZhD t).reverse.map Title.cs).length:Int))
rw [List.length_map,List.length_reverse]
repeat (first | refine ZaB rfl rfl (by omega) ?_ | refine Zaw rfl rfl rfl (by omega) (by omega) ?_ | refine g_dec rfl rfl rfl (by omega) ?_ | refine Zas rfl rfl rfl (by omega) (by omega) ?_ | refine ZbJ ?_ | refine ZK Tryz.underlying9 rfl rfl ?_)
by_cases hlt:(i:Int)<((ZhD t).length:Int)
·refine Zah (by (conv=>lhs;whnf);try rfl) (decide_eq_true hlt) ?_
 have hlt':i<(ZhD t).reverse.length:=by rw [List.length_reverse];omega
 obtain ⟨x,hx⟩:∃ x,(ZhD t).reverse[i]? = some x:=⟨_,List.getElem?_eq_getElem hlt'⟩
 have hcs:((ZhD t).reverse.map Title.cs)[i]? = some x.cs:=by rw [List.getElem?_map,hx];rfl
 repeat (first | (refine Zdc rfl rfl rfl hcs rfl ?_) | (refine ZdG rfl rfl rfl rfl (by show (List.length _+1) * _<=_;simp;omega) (by show List.length _+1<=_;simp;omega) (by rfl) ?_) | refine ZaB rfl rfl (by omega) ?_ | refine Zaw rfl rfl rfl (by omega) (by omega) ?_ | refine g_dec rfl rfl rfl (by omega) ?_ | refine Zas rfl rfl rfl (by omega) (by omega) ?_ | refine ZbJ ?_ | refine ZK Tryz.underlying9 rfl rfl ?_)
 refine ZY (i+1) 2 (by omega) (by show (ZhD t).length-(i+1)<(ZhD t).length-i;omega) (Zu [((1,1),(1,1)),((1,9),_)] ⟨rfl,rfl,rfl,rfl,rfl,trivial⟩ ⟨⟨rfl,rfl⟩,⟨?_,rfl⟩,trivial⟩ rfl)
 rw [List.take_add_one,hx]
 simp only [Option.toList_some,List.map_append,List.map_cons,List.map_nil]
 rfl
·refine ZS (by (conv=>lhs;whnf);try rfl) (decide_eq_false hlt) ?_
 repeat (first | (refine ZdG rfl rfl rfl rfl (by show (List.length _+2) * _<=_;simp;omega) (by show List.length _+2<=_;simp;omega) (by rfl) ?_) | refine ZaB rfl rfl (by omega) ?_ | refine Zaw rfl rfl rfl (by omega) (by omega) ?_ | refine g_dec rfl rfl rfl (by omega) ?_ | refine Zas rfl rfl rfl (by omega) (by omega) ?_ | refine ZbJ ?_ | refine ZK Tryz.underlying9 rfl rfl ?_)
 refine Zb8 rfl rfl ?_
 unfold ZJ
 rw [Zs1,List.take_of_length_le (by simp;omega)]
 simp only [List.map_append,List.map_cons,List.map_nil]
 rfl}
def ZL (G:List ByteArray) (right:Int) (lv:Scope) (r:Rule):Bool:=decide (r.right=right)&&ZmP G r.group&&ZdO r.scope lv
def Zcb (R:List Rule) (G:List ByteArray) (right:Int):List Scope->Bool | []=>false | lv::rest=>if R.any (ZL G right lv) then R.all (fun r=>!ZL G right lv r||r.allow) else Zcb R G right rest
def Zjf (p:Policy) (G:List ByteArray) (right:Int) (t:Title):Bool:=t.valid&&decide (1<=right)&&decide (right<=5)&&Zcb p.rules G right (ZJ t)
theorem ZqL {α:Type} {R:List α} {f:α->Bool} {k:Nat} {r:α} (h:R[k]? = some r):(R.take (k+1)).any f=((R.take k).any f||f r):=by rw [List.take_add_one,h];simp
theorem ZqM {α:Type} {R:List α} {f:α->Bool} {k:Nat} {r:α} (h:R[k]? = some r):(R.take (k+1)).all f=((R.take k).all f&&f r):=by rw [List.take_add_one,h];simp
theorem ZzS (p:Policy) (G:List ByteArray) (right:Int) (t:Title) (hR:p.rules.length<=1000000):Zb Tryz.prog 45 [p.pv,Zpf G,.int .i64 right,t.pv] (.bool (Zjf p G right t)):=by{
have hcv:=ZsL t
have hll:(ZJ t).length<=103:=by unfold ZJ;have:=Zki t;simp [Zgw];omega
refine Zbe mix Tryz.func45 (by kernel_rfl) rfl (by kernel_rfl) ?_
rcases Bool.eq_false_or_eq_true t.valid with hv | hv<;>rw [hv] at hcv
·repeat (first | (refine Zc8 hcv rfl rfl ?_) | refine ZaB rfl rfl (by omega) ?_ | refine Zaw rfl rfl rfl (by omega) (by omega) ?_ | refine g_dec rfl rfl rfl (by omega) ?_ | refine Zas rfl rfl rfl (by omega) (by omega) ?_ | refine ZbJ ?_ | refine ZK Tryz.underlying9 rfl rfl ?_)
 by_cases h1:right<1
 ·rw [decide_eq_true h1]
  repeat (first | (refine Zg rfl ?_) | refine ZaB rfl rfl (by omega) ?_ | refine Zaw rfl rfl rfl (by omega) (by omega) ?_ | refine g_dec rfl rfl rfl (by omega) ?_ | refine Zas rfl rfl rfl (by omega) (by omega) ?_ | refine ZbJ ?_ | refine ZK Tryz.underlying9 rfl rfl ?_)
  refine Zah (by (conv=>lhs;whnf);try rfl) rfl ?_
  repeat (first | refine ZaB rfl rfl (by omega) ?_ | refine Zaw rfl rfl rfl (by omega) (by omega) ?_ | refine g_dec rfl rfl rfl (by omega) ?_ | refine Zas rfl rfl rfl (by omega) (by omega) ?_ | refine ZbJ ?_ | refine ZK Tryz.underlying9 rfl rfl ?_)
  refine Zb8 rfl rfl ?_
  unfold Zjf
  rw [decide_eq_false (show ¬ 1<=right by omega)]
  simp
  rfl
 ·rw [decide_eq_false h1]
  repeat (first | refine ZaB rfl rfl (by omega) ?_ | refine Zaw rfl rfl rfl (by omega) (by omega) ?_ | refine g_dec rfl rfl rfl (by omega) ?_ | refine Zas rfl rfl rfl (by omega) (by omega) ?_ | refine ZbJ ?_ | refine ZK Tryz.underlying9 rfl rfl ?_)
  by_cases h5:5<right
  ·refine Zah (by (conv=>lhs;whnf);try rfl) (decide_eq_true h5) ?_
   repeat (first | refine ZaB rfl rfl (by omega) ?_ | refine Zaw rfl rfl rfl (by omega) (by omega) ?_ | refine g_dec rfl rfl rfl (by omega) ?_ | refine Zas rfl rfl rfl (by omega) (by omega) ?_ | refine ZbJ ?_ | refine ZK Tryz.underlying9 rfl rfl ?_)
   refine Zb8 rfl rfl ?_
   unfold Zjf
   rw [decide_eq_false (show ¬ right<=5 by omega)]
   simp
   rfl
  ·refine ZS (by (conv=>lhs;whnf);try rfl) (decide_eq_false h5) ?_
   have hmay:Zjf p G right t=Zcb p.rules G right (ZJ t):=by
    unfold Zjf
    rw [hv,decide_eq_true (show 1<=right by omega),decide_eq_true (show right<=5 by omega)]
    rfl
   rw [hmay]
   repeat (first | (refine Zc8 (ZuV t) rfl rfl ?_) | refine ZaB rfl rfl (by omega) ?_ | refine Zaw rfl rfl rfl (by omega) (by omega) ?_ | refine g_dec rfl rfl rfl (by omega) ?_ | refine Zas rfl rfl rfl (by omega) (by omega) ?_ | refine ZbJ ?_ | refine ZK Tryz.underlying9 rfl rfl ?_)
   refine Zi (α:=Nat) (fun i _=>mkS [(1,Zpf G),(2,.int .i64 right),(4,.ptr 4 (1,4) 0),(27,.sl ((ZJ t).map Scope.cs)),(28,.int .i64 ((ZJ t).length:Int)),(29,.int .i64 ((i:Nat):Int))] [(4,some ((1,4),.box p.cs))] 2)
    (fun i=>i<=(ZJ t).length/\Zcb p.rules G right (ZJ t)=Zcb p.rules G right ((ZJ t).drop i)) (fun i=>(ZJ t).length-i) 0 2 ⟨Nat.zero_le _,rfl⟩
    (Zu [((1,4),(1,0))] ⟨rfl,rfl,rfl,rfl,?_,rfl,trivial⟩ ⟨⟨rfl,rfl⟩,trivial⟩ rfl) (fun i _ hJ=>?_)
   show some (PV.int .i64 ((ZJ t).length:Int))=some (PV.int .i64 (((ZJ t).map Scope.cs).length:Int))
   rw [List.length_map]
   obtain ⟨(hi:i<=(ZJ t).length),(hno:Zcb p.rules G right (ZJ t)=Zcb p.rules G right ((ZJ t).drop i))⟩:=hJ
   repeat (first | refine ZaB rfl rfl (by omega) ?_ | refine Zaw rfl rfl rfl (by omega) (by omega) ?_ | refine g_dec rfl rfl rfl (by omega) ?_ | refine Zas rfl rfl rfl (by omega) (by omega) ?_ | refine ZbJ ?_ | refine ZK Tryz.underlying9 rfl rfl ?_)
   by_cases hlt:(i:Int)<((ZJ t).length:Int)
   ·refine Zah (by (conv=>lhs;whnf);try rfl) (decide_eq_true hlt) ?_
    have hlt':i<(ZJ t).length:=by omega
    obtain ⟨lv,hx⟩:∃ lv,(ZJ t)[i]? = some lv:=⟨_,List.getElem?_eq_getElem hlt'⟩
    have hcs:((ZJ t).map Scope.cs)[i]? = some lv.cs:=by rw [List.getElem?_map,hx];rfl
    have hd:(ZJ t).drop i=lv::(ZJ t).drop (i+1):=by
     rw [List.drop_eq_getElem_cons hlt']
     rw [List.getElem?_eq_getElem hlt'] at hx
     injection hx with hx
     rw [hx]
    rw [hd,Zcb] at hno
    repeat (first | (refine Zdc rfl rfl rfl hcs rfl ?_) | refine ZaB rfl rfl (by omega) ?_ | refine Zaw rfl rfl rfl (by omega) (by omega) ?_ | refine g_dec rfl rfl rfl (by omega) ?_ | refine Zas rfl rfl rfl (by omega) (by omega) ?_ | refine ZbJ ?_ | refine ZK Tryz.underlying9 rfl rfl ?_)
    refine Zi (α:=Nat) (fun k _=>mkS [(1,Zpf G),(2,.int .i64 right),(4,.ptr 4 (1,4) 0),(27,.sl ((ZJ t).map Scope.cs)),(28,.int .i64 ((ZJ t).length:Int)),(29,.int .i64 (i:Int)),(10,.ptr 10 (1,10) 0),(11,.bool ((p.rules.take k).any (ZL G right lv))),(12,.bool ((p.rules.take k).all fun r=>!ZL G right lv r||r.allow)),(34,.sl (p.rules.map Rule.cs)),(35,.int .i64 (p.rules.length:Int)),(36,.int .i64 ((k:Nat):Int))] [(4,some ((1,4),.box p.cs)),(10,some ((1,10),.box lv.cs))] 2)
     (fun k=>k<=p.rules.length) (fun k=>p.rules.length-k) 0 2 (Nat.zero_le _)
     (Zu [((1,4),(1,4)),((1,10),_)] ⟨rfl,rfl,rfl,rfl,rfl,rfl,rfl,rfl,rfl,rfl,?_,rfl,trivial⟩ ⟨⟨rfl,rfl⟩,⟨rfl,rfl⟩,trivial⟩ rfl) (fun k _ (hk:k<=p.rules.length)=>?_)
    show some (PV.int .i64 (p.rules.length:Int))=some (PV.int .i64 ((p.rules.map Rule.cs).length:Int))
    rw [List.length_map]
    repeat (first | refine ZaB rfl rfl (by omega) ?_ | refine Zaw rfl rfl rfl (by omega) (by omega) ?_ | refine g_dec rfl rfl rfl (by omega) ?_ | refine Zas rfl rfl rfl (by omega) (by omega) ?_ | refine ZbJ ?_ | refine ZK Tryz.underlying9 rfl rfl ?_)
    by_cases hlk:(k:Int)<(p.rules.length:Int)
    ·refine Zah (by (conv=>lhs;whnf);try rfl) (decide_eq_true hlk) ?_
     have hlk':k<p.rules.length:=by omega
     obtain ⟨r,hr⟩:∃ r,p.rules[k]? = some r:=⟨_,List.getElem?_eq_getElem hlk'⟩
     have hcr:(p.rules.map Rule.cs)[k]? = some r.cs:=by rw [List.getElem?_map,hr];rfl
     have hany:(p.rules.take (k+1)).any (ZL G right lv)=((p.rules.take k).any (ZL G right lv)||ZL G right lv r):=ZqL hr
     have hall:(p.rules.take (k+1)).all (fun r=>!ZL G right lv r||r.allow)=((p.rules.take k).all (fun r=>!ZL G right lv r||r.allow)&&(!ZL G right lv r||r.allow)):=ZqM (f:=fun r=>!ZL G right lv r||r.allow) hr
     have hms:p.rules.length-(k+1)<p.rules.length-k:=by omega
     repeat (first | (refine Zdc rfl rfl rfl hcr rfl ?_) | refine ZaB rfl rfl (by omega) ?_ | refine Zaw rfl rfl rfl (by omega) (by omega) ?_ | refine g_dec rfl rfl rfl (by omega) ?_ | refine Zas rfl rfl rfl (by omega) (by omega) ?_ | refine ZbJ ?_ | refine ZK Tryz.underlying9 rfl rfl ?_)
     by_cases e1:r.right=right
     ·rw [decide_eq_true e1]
      repeat (first | (refine Zc8 (Zl3 G _) rfl rfl ?_) | refine ZaB rfl rfl (by omega) ?_ | refine Zaw rfl rfl rfl (by omega) (by omega) ?_ | refine g_dec rfl rfl rfl (by omega) ?_ | refine Zas rfl rfl rfl (by omega) (by omega) ?_ | refine ZbJ ?_ | refine ZK Tryz.underlying9 rfl rfl ?_)
      rcases Bool.eq_false_or_eq_true (ZmP G r.group) with e2 | e2
      ·rw [e2]
       repeat (first | (refine Zc8 (Zvl r.scope lv) rfl rfl ?_) | refine ZaB rfl rfl (by omega) ?_ | refine Zaw rfl rfl rfl (by omega) (by omega) ?_ | refine g_dec rfl rfl rfl (by omega) ?_ | refine Zas rfl rfl rfl (by omega) (by omega) ?_ | refine ZbJ ?_ | refine ZK Tryz.underlying9 rfl rfl ?_)
       have hf:ZL G right lv r=ZdO r.scope lv:=by unfold ZL;rw [decide_eq_true e1,e2];rfl
       rcases Bool.eq_false_or_eq_true (ZdO r.scope lv) with e3 | e3
       refine Zah (by (conv=>lhs;whnf);try rfl) e3 ?_
       rw [hf,e3] at hany hall
       simp only [Bool.or_true,Bool.not_true,Bool.false_or] at hany hall
       rcases Bool.eq_false_or_eq_true ((p.rules.take k).all fun r=>!ZL G right lv r||r.allow) with e4 | e4
       ·rw [e4]
        rw [e4,Bool.true_and] at hall
        repeat (first | refine ZaB rfl rfl (by omega) ?_ | refine Zaw rfl rfl rfl (by omega) (by omega) ?_ | refine g_dec rfl rfl rfl (by omega) ?_ | refine Zas rfl rfl rfl (by omega) (by omega) ?_ | refine ZbJ ?_ | refine ZK Tryz.underlying9 rfl rfl ?_)
        refine ZY (k+1) 2 hlk' hms (Zu [((1,4),(1,4)),((1,10),(1,10))] ⟨rfl,rfl,rfl,rfl,rfl,rfl,rfl,?_,?_,rfl,rfl,rfl,trivial⟩ ⟨⟨rfl,rfl⟩,⟨rfl,rfl⟩,trivial⟩ rfl)
        rw [hany];rfl
        rw [hall];rfl
       ·rw [e4]
        rw [e4,Bool.false_and] at hall
        repeat (first | (refine Zg rfl ?_) | refine ZaB rfl rfl (by omega) ?_ | refine Zaw rfl rfl rfl (by omega) (by omega) ?_ | refine g_dec rfl rfl rfl (by omega) ?_ | refine Zas rfl rfl rfl (by omega) (by omega) ?_ | refine ZbJ ?_ | refine ZK Tryz.underlying9 rfl rfl ?_)
        refine ZY (k+1) 2 hlk' hms (Zu [((1,4),(1,4)),((1,10),(1,10))] ⟨rfl,rfl,rfl,rfl,rfl,rfl,rfl,?_,?_,rfl,rfl,rfl,trivial⟩ ⟨⟨rfl,rfl⟩,⟨rfl,rfl⟩,trivial⟩ rfl)
        rw [hany];rfl
        rw [hall];rfl
       ·refine ZS (by (conv=>lhs;whnf);try rfl) e3 ?_
        rw [hf,e3] at hany hall
        simp only [Bool.or_false,Bool.not_false,Bool.true_or,Bool.and_true] at hany hall
        repeat (first | refine ZaB rfl rfl (by omega) ?_ | refine Zaw rfl rfl rfl (by omega) (by omega) ?_ | refine g_dec rfl rfl rfl (by omega) ?_ | refine Zas rfl rfl rfl (by omega) (by omega) ?_ | refine ZbJ ?_ | refine ZK Tryz.underlying9 rfl rfl ?_)
        refine ZY (k+1) 2 hlk' hms (Zu [((1,4),(1,4)),((1,10),(1,10))] ⟨rfl,rfl,rfl,rfl,rfl,rfl,rfl,?_,?_,rfl,rfl,rfl,trivial⟩ ⟨⟨rfl,rfl⟩,⟨rfl,rfl⟩,trivial⟩ rfl)
        rw [hany];rfl
        rw [hall];rfl
      ·rw [e2]
       have hf:ZL G right lv r=false:=by unfold ZL;rw [decide_eq_true e1,e2];rfl
       rw [hf] at hany hall
       simp only [Bool.or_false,Bool.not_false,Bool.true_or,Bool.and_true] at hany hall
       repeat (first | (refine Zg rfl ?_) | refine ZaB rfl rfl (by omega) ?_ | refine Zaw rfl rfl rfl (by omega) (by omega) ?_ | refine g_dec rfl rfl rfl (by omega) ?_ | refine Zas rfl rfl rfl (by omega) (by omega) ?_ | refine ZbJ ?_ | refine ZK Tryz.underlying9 rfl rfl ?_)
       refine ZS (by (conv=>lhs;whnf);try rfl) rfl ?_
       repeat (first | refine ZaB rfl rfl (by omega) ?_ | refine Zaw rfl rfl rfl (by omega) (by omega) ?_ | refine g_dec rfl rfl rfl (by omega) ?_ | refine Zas rfl rfl rfl (by omega) (by omega) ?_ | refine ZbJ ?_ | refine ZK Tryz.underlying9 rfl rfl ?_)
       refine ZY (k+1) 2 hlk' hms (Zu [((1,4),(1,4)),((1,10),(1,10))] ⟨rfl,rfl,rfl,rfl,rfl,rfl,rfl,?_,?_,rfl,rfl,rfl,trivial⟩ ⟨⟨rfl,rfl⟩,⟨rfl,rfl⟩,trivial⟩ rfl)
       rw [hany];rfl
       rw [hall];rfl
     ·rw [decide_eq_false e1]
      have hf:ZL G right lv r=false:=by unfold ZL;rw [decide_eq_false e1];rfl
      rw [hf] at hany hall
      simp only [Bool.or_false,Bool.not_false,Bool.true_or,Bool.and_true] at hany hall
      repeat (first | (refine Zg rfl ?_) | refine ZaB rfl rfl (by omega) ?_ | refine Zaw rfl rfl rfl (by omega) (by omega) ?_ | refine g_dec rfl rfl rfl (by omega) ?_ | refine Zas rfl rfl rfl (by omega) (by omega) ?_ | refine ZbJ ?_ | refine ZK Tryz.underlying9 rfl rfl ?_)
      refine ZS (by (conv=>lhs;whnf);try rfl) rfl ?_
      repeat (first | refine ZaB rfl rfl (by omega) ?_ | refine Zaw rfl rfl rfl (by omega) (by omega) ?_ | refine g_dec rfl rfl rfl (by omega) ?_ | refine Zas rfl rfl rfl (by omega) (by omega) ?_ | refine ZbJ ?_ | refine ZK Tryz.underlying9 rfl rfl ?_)
      refine ZY (k+1) 2 hlk' hms (Zu [((1,4),(1,4)),((1,10),(1,10))] ⟨rfl,rfl,rfl,rfl,rfl,rfl,rfl,?_,?_,rfl,rfl,rfl,trivial⟩ ⟨⟨rfl,rfl⟩,⟨rfl,rfl⟩,trivial⟩ rfl)
      rw [hany];rfl
      rw [hall];rfl
    ·refine ZS (by (conv=>lhs;whnf);try rfl) (decide_eq_false hlk) ?_
     obtain rfl:k=p.rules.length:=by omega
     rw [List.take_length]
     repeat (first | refine ZaB rfl rfl (by omega) ?_ | refine Zaw rfl rfl rfl (by omega) (by omega) ?_ | refine g_dec rfl rfl rfl (by omega) ?_ | refine Zas rfl rfl rfl (by omega) (by omega) ?_ | refine ZbJ ?_ | refine ZK Tryz.underlying9 rfl rfl ?_)
     rcases Bool.eq_false_or_eq_true (p.rules.any (ZL G right lv)) with e5 | e5
     ·refine Zah (by (conv=>lhs;whnf);try rfl) e5 ?_
      rw [if_pos e5] at hno
      repeat (first | refine ZaB rfl rfl (by omega) ?_ | refine Zaw rfl rfl rfl (by omega) (by omega) ?_ | refine g_dec rfl rfl rfl (by omega) ?_ | refine Zas rfl rfl rfl (by omega) (by omega) ?_ | refine ZbJ ?_ | refine ZK Tryz.underlying9 rfl rfl ?_)
      exact Zb8 rfl rfl (by rw [hno];rfl)
     ·refine ZS (by (conv=>lhs;whnf);try rfl) e5 ?_
      rw [if_neg (by rw [e5];simp)] at hno
      repeat (first | refine ZaB rfl rfl (by omega) ?_ | refine Zaw rfl rfl rfl (by omega) (by omega) ?_ | refine g_dec rfl rfl rfl (by omega) ?_ | refine Zas rfl rfl rfl (by omega) (by omega) ?_ | refine ZbJ ?_ | refine ZK Tryz.underlying9 rfl rfl ?_)
      exact ZY (i+1) 2 ⟨hlt',hno⟩ (by show (ZJ t).length-(i+1)<(ZJ t).length-i;omega) (Zu [((1,4),(1,4))] ⟨rfl,rfl,rfl,rfl,rfl,rfl,trivial⟩ ⟨⟨rfl,rfl⟩,trivial⟩ rfl)
   ·refine ZS (by (conv=>lhs;whnf);try rfl) (decide_eq_false hlt) ?_
    obtain rfl:i=(ZJ t).length:=by omega
    rw [List.drop_length,Zcb] at hno
    repeat (first | refine ZaB rfl rfl (by omega) ?_ | refine Zaw rfl rfl rfl (by omega) (by omega) ?_ | refine g_dec rfl rfl rfl (by omega) ?_ | refine Zas rfl rfl rfl (by omega) (by omega) ?_ | refine ZbJ ?_ | refine ZK Tryz.underlying9 rfl rfl ?_)
    exact Zb8 rfl rfl (by rw [hno];rfl)
·repeat (first | (refine Zc8 hcv rfl rfl ?_) | (refine Zg rfl ?_) | refine ZaB rfl rfl (by omega) ?_ | refine Zaw rfl rfl rfl (by omega) (by omega) ?_ | refine g_dec rfl rfl rfl (by omega) ?_ | refine Zas rfl rfl rfl (by omega) (by omega) ?_ | refine ZbJ ?_ | refine ZK Tryz.underlying9 rfl rfl ?_)
 refine Zah (by (conv=>lhs;whnf);try rfl) rfl ?_
 repeat (first | refine ZaB rfl rfl (by omega) ?_ | refine Zaw rfl rfl rfl (by omega) (by omega) ?_ | refine g_dec rfl rfl rfl (by omega) ?_ | refine Zas rfl rfl rfl (by omega) (by omega) ?_ | refine ZbJ ?_ | refine ZK Tryz.underlying9 rfl rfl ?_)
 refine Zb8 rfl rfl ?_
 unfold Zjf
 rw [hv]
 rfl}
end
end Go.Proofs.YtpdaeclbndpabaaGreatDoor
