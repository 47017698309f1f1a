/- The reference's Valid. | Functions of the library and of -/
import Derived.Test.YtmgfammllddkhaaGreatDoorCO04
import Derived.Test.YtmgfammllddkhaaGreatDoorCO03
set_option linter.unusedSimpArgs false
set_option maxRecDepth 100000
set_option maxHeartbeats 4000000
set_option linter.unusedVariables false
namespace Go.Proofs.YtmgfammllddkhaaGreatDoor
section
open Go.RowKit
theorem jZ (s:Q1) (q:Nat) (hq:q<s.size) (w:World):Calls Tryz.prog 93 #[.string ⟨#[60,62,91,93,123,125,124,35,95]⟩,.string (s.extract q (q+1)),.int .i64 0] w fun e w'=>e = .returned (.int .i64 (Lib.indexByte LL s[q]))/\w=w':=by{
rw [cL s q hq]
refine (jU _ _ w (by show 9+1<=_;omega)).mono ?_
rintro e w' ⟨rfl,rfl⟩
refine ⟨?_,rfl⟩
rw [<- Lib.index_one]
rfl}
theorem yI (t:Title) (w:World):Calls Tryz.prog 57 #[.agg #[.int .i64 t.space,.string t.name]] w fun e w'=>e = .returned (.bool t.valid)/\Below w.heap.size w w':=by{
obtain ⟨sp,s⟩:=t
by_cases h:0<=sp/\sp<6/\1<=s.size/\s.size<=100
case neg=>
 have hv:Title.valid ⟨sp,s⟩=false:=by
  cases hV:Title.valid ⟨sp,s⟩ with
  | false=>rfl
  | true=>
    simp only [Title.valid,YH,YT] at hV
    obtain ⟨⟨⟨⟨⟨⟨⟨ha,hb⟩,hc⟩,hd⟩,hcl⟩,_⟩,_⟩,_⟩:=hV
    exact absurd ⟨ha,hb,hc,hd⟩ h
 have HV:=Lib.hid hv
 have h':sp<0\/6<=sp\/(s.size:Int)<1\/(100:Int)<s.size:=by omega
 clear h hv
 go_enter Tryz.func57,Tryz.ntmps57
 go_wp2
 all_goals
  first
  | (exfalso;omega)
  | (go_ret
     exact ⟨DV HV.out.symm,Below.al (Below.refl _ _) _⟩)
obtain ⟨h1,h2,h3,h4⟩:=h
have hs1:(1:Int)<=s.size:=by omega
have hs2:(s.size:Int)<=100:=by omega
have HSP:Hid (Title.valid ⟨sp,s⟩=(D5 (-1) s.data.toList&&((GC s.data.toList).all (fun p=>EC p.data.toList)&&(LM (s[0]'(by omega)).toNat&&(decide (sp≠0)||decide ((GW s).1=0)))))):=Lib.hid (by
 rw [jX s EC,yH,<- jP s (by omega)]
 simp [Title.valid,h1,h2,h3,h4,Bool.and_assoc])
go_enter Tryz.func57,Tryz.ntmps57
go_wp2_with fail
all_goals try (exfalso;omega)
generalize hw1:w.alloc _=w1
have c0_0:w1.cell? ⟨w.heap.size,0,none⟩=some (.int .i64 sp):=by subst hw1;go_simp
have c0_1:w1.cell? ⟨w.heap.size,1,none⟩=some (.string s):=by subst hw1;go_simp
have HB:Hid (Below w.heap.size w w1):=by subst hw1;exact Below.al (Below.refl _ _) _
clear hw1
have HF:Hid (∀ W,Below w1.heap.size w1 W->W.cell? ⟨w.heap.size,0,none⟩=some (.int .i64 sp)/\W.cell? ⟨w.heap.size,1,none⟩=some (.string s)):=fun W h=>⟨re1 h (DU c0_0) c0_0,re1 h (DU c0_1) c0_1⟩
go_loopw [4] (fun i wr=>∃ q:Nat,q<=s.size/\i = .int .i64 q/\wr=w1/\Hid (D5 (-1) s.data.toList=D5 (HM s q) (s.data.toList.drop q))) (fun i _=>s.size-(intOf i).toNat)
case atStart=>exact ⟨0,YJ _,rfl,rfl,rfl⟩
case round=>
 obtain ⟨q,hq,rfl,rfl,hC⟩:=hrel
 by_cases hlt:q<s.size
 have HD:Hid (s.data.toList.drop q=s[q]::s.data.toList.drop (q+1)):=Yt (by rw [YF];exact hlt)
 have HP':Hid (HM s (q+1)=((s[q]'hlt).toNat:Int)):=by unfold HM;rw [dif_pos ⟨RQ q,hlt⟩];rfl
 have b1:(0:Int)<=q:=by omega
 have b2:(q:Int)<(s.size:Int):=by omega
 by_cases h0:q=0
 ·subst h0
  have HP:Hid (HM s 0 = -1):=rfl
  go_wp2_with (go_at_call 93;refine (jZ s 0 hlt _).mono ?_;rintro e w' ⟨rfl,rfl⟩)
  all_goals (try simp only [DC,YL,ne_eq] at *)
  all_goals first
   | (exfalso;omega)
   | (go_ret;refine ⟨DV ?_,HB.out⟩;rw [HSP.out,hC.out,HD.out,VZ (by rw [HP.out];omega)];rfl)
   | (go_roundw;(case rel=>(refine ⟨1,by omega,rfl,by trivial,?_⟩;rw [hC.out,HD.out,W2 (by rw [HP.out];omega)];exact CA (fun p=>D5 p (s.data.toList.drop (0+1))) HP'.out.symm));(case measure=>(simp [intOf];omega)))
 ·have HP:Hid (HM s q=((s[q-1]'(by omega)).toNat:Int)):=by unfold HM;rw [dif_pos ⟨by omega,by omega⟩];exact Lib.hid rfl
  have hq1:0<q:=by omega
  have b3:(1:Int)<=q:=by omega
  clear h0
  go_wp2_with (go_at_call 93;refine (jZ s q hlt _).mono ?_;rintro e w' ⟨rfl,rfl⟩)
  all_goals (try simp only [DC,YL,ne_eq] at *)
  all_goals first
   | (exfalso;omega)
   | (go_ret;refine ⟨DV ?_,HB.out⟩;rw [HSP.out,hC.out,HD.out,VZ (by rw [HP.out];omega)];rfl)
   | (go_roundw;(case rel=>(refine ⟨q+1,by omega,by go_num,by trivial,?_⟩;rw [hC.out,HD.out,W2 (by rw [HP.out];omega)];exact CA (fun p=>D5 p (s.data.toList.drop (q+1))) HP'.out.symm));(case measure=>(simp [intOf];omega)))
 ·obtain rfl:q=s.size:=by omega
  have hz:s.data.toList.drop s.size = []:=YI (by rw [YF];exact Yn _)
  have HZ:Hid (D5 (-1) s.data.toList=true):=by rw [hC.out,hz];exact rfl
  rw [HZ.out,RP] at HSP
  clear hz hC HZ
  go_wp2_with fail
  refine (yC s _ (by omega)).mono ?_
  rintro e w2 ⟨v,rfl,hown,hb2⟩
  have hps:Hid (∀ p ∈ GC s.data.toList,p.size<=100):=Lib.hid (by
   have hall:=jX s (fun l=>decide (l.length<=100))
   have h5:(Lib.splitB ⟨#[47]⟩ 0 (Lib.countB s ⟨#[47]⟩) s).all (fun p=>decide (p.data.toList.length<=100))=true:=by
    rw [Yq]
    intro p hp
    have:=W3 ⟨#[47]⟩ _ s p hp
    rw [YF]
    exact Yh (YX this h4)
   rw [h5,Yq] at hall
   intro p hp
   have:=GK (hall p hp)
   rw [YF] at this
   exact this)
  generalize GC s.data.toList=ps at *
  obtain ⟨A,c,rfl,hS,_⟩:=hown.sl
  have c1:w2.cell? ⟨w.heap.size,0,none⟩=some (.int .i64 sp):=re1 hb2 (DU c0_0) c0_0
  have HB2:=Lib.hid (Below.tr HB.out hb2)
  have HS:=Lib.hid hS
  have hle:=hS.le
  have hle2:(ps.length:Int)<=9223372036854775807:=by omega
  clear hown hb2 hS c0_0 c0_1 HF HB
  go_wp2_with fail
  go_loopw [6] (fun i wr=>∃ q:Nat,q<=ps.length/\i = .int .i64 q/\Below w2.heap.size w2 wr/\Hid (ps.all (fun p=>EC p.data.toList)=(ps.drop q).all (fun p=>EC p.data.toList))) (fun i _=>ps.length-(intOf i).toNat)
  case atStart=>exact ⟨0,by omega,rfl,Below.refl _ _,rfl⟩
  case round=>
   obtain ⟨q,hq,rfl,hbw,hA⟩:=hrel
   have HW:=Lib.hid hbw
   clear hbw
   by_cases hlt:q<ps.length
   have b1:(0:Int)<=q:=by omega
   have b2:(q:Int)<(ps.length:Int):=by omega
   obtain ⟨b,off,x,cs,hA,hbl,hx,hd,hR,hc⟩:=(HS.out.mono HW.out).elem hlt
   obtain rfl:=hA
   have d0:wr.cell? ⟨b,off+q,none⟩=some (.string x):=by subst hR;simpa using hc 0 _ rfl
   have HD:=Lib.hid hd
   have HX:=Lib.hid hx
   clear hx hd hR hc
   have hxs:=hps.out x (Yj HX.out)
   by_cases hx0:x.size=0
   ·have hx1:x.toList = []:=by rw [ByteArray.toList_eq];exact Yl (by rw [YF];exact hx0)
    have HP:Hid (EC x.data.toList=false):=Lib.hid (by rw [<- ByteArray.toList_eq,hx1];rfl)
    clear hx0
    go_wp2_with fail
    go_quiet (fail)
    go_wp2
    go_ret
    exact ⟨DV (by rw [HSP.out,hA.out,HD.out,J1,HP.out];rfl),Below.tr HB2.out (Below.dn HW.out _)⟩
   have hx1:¬ x.toList = []:=fun e=>by rw [ByteArray.toList_eq] at e;exact hx0 (by have:=CA List.length e;rw [YF] at this;exact this)
   have hx2:0<x.size:=by omega
   have hx3:(0:Int)<=(x.size:Int)-1:=by omega
   have hx4:(0:Int)<(x.size:Int):=by omega
   have hx5:(1:Int)<=(x.size:Int):=by omega
   have hx9:(x.size:Int)-1<(x.size:Int):=by omega
   have hx6:x.toList.isEmpty=false:=by rw [List.isEmpty_eq_false_iff];exact hx1
   have hx7:(x.toList == [])=false:=YL.2 hx1
   have hx8:decide (x.toList = [])=false:=Yf hx1
   have HP:=Lib.hid (jR x hx2)
   clear hx0
   by_cases hf:(x[0].toNat:Int)=32
   ·have HP2:Hid (EC x.data.toList=false):=Lib.hid (by rw [HP.out,hf];rfl)
    go_wp2_with fail
    go_quiet (fail)
    go_wp2
    go_ret
    exact ⟨DV (by rw [HSP.out,hA.out,HD.out,J1,HP2.out];rfl),Below.tr HB2.out (Below.dn HW.out _)⟩
   by_cases hl:((x[x.size-1]'(by omega)).toNat:Int)=32
   ·have HP2:Hid (EC x.data.toList=false):=Lib.hid (by rw [HP.out,hl];simp)
    have hf:((x[0].toNat:Int) == 32)=false:=YL.2 hf
    go_wp2_with fail
    go_quiet (fail)
    go_wp2
    go_ret
    exact ⟨DV (by rw [HSP.out,hA.out,HD.out,J1,HP2.out];rfl),Below.tr HB2.out (Below.dn HW.out _)⟩
   ·have HP2:Hid (EC x.data.toList=true):=Lib.hid (by rw [HP.out,YL.2 hf,YL.2 hl];rfl)
    have hf:((x[0].toNat:Int) == 32)=false:=YL.2 hf
    have hl:(((x[x.size-1]'(by omega)).toNat:Int) == 32)=false:=YL.2 hl
    go_wp2_with fail
    go_quiet (fail)
    go_wp2
    go_roundw
    case rel=>exact ⟨q+1,by omega,by go_num,Below.dn HW.out _,Lib.hid (by rw [hA.out,HD.out,J1,HP2.out];rfl)⟩
    case measure=>simp [intOf];omega
   ·obtain rfl:q=ps.length:=by omega
    have hz:ps.all (fun p=>EC p.data.toList)=true:=by
     rw [hA.out,YI (Yn _)];rfl
    rw [hz,RP] at HSP
    have c2:wr.cell? ⟨w.heap.size,0,none⟩=some (.int .i64 sp):=re1 HW.out (DU c1) c1
    clear hz hA c1 hps
    have hs0:(0:Int)<s.size:=by omega
    go_wp2_with (go_at_call 92;refine (jV s _ (by omega)).mono ?_;rintro e w5 ⟨rfl,hb5⟩;have c3:=re1 hb5 (DU c2) c2)
    all_goals
     go_ret
     refine ⟨DV ?_,?_⟩
     ·rw [HSP.out]
      simp only [DC,YL,ne_eq] at *
      first
       | (rw [cE (by omega)];rfl)
       | (rw [cG (by omega) (by omega)];rfl)
       | (rw [W4 (by omega) (by omega)];simp_all;done)
       | (rw [W4 (by omega) (by omega)];simp_all;rfl)
     first | exact Below.tr (Below.tr HB2.out HW.out) (by assumption) | exact Below.tr HB2.out HW.out}
end
section
open VL Go.RowKit
def cQ (t:Title):Q2 Bool:=some t.valid
theorem yJ (t:Title) (r:Bool) (h:cQ t=some r):Zg Tryz.prog 57 [t.pv] (.bool r):=by
 cases h
 exact HC (vals:=[.agg #[.int .i64 t.space,.string t.name]]) (by kernel_rfl) rfl rfl (fun x=>.bool _) fun w _=>yI t w
def cR (t:Title):Q2 Bool:=some t.valid
theorem yK (t:Title) (r:Bool) (h:cR t=some r):Zg Tryz.prog 157 [t.pv] (.bool r):=by
 cases h
 exact HC (vals:=[.agg #[.int .i64 t.space,.string t.name]]) (by kernel_rfl) rfl rfl (fun x=>.bool _) fun w hw=>xT t w hw.1
def cT (a b:Title):Q2 Int:=some (Title.cmp a b)
theorem kA (a b:Title) (r:Int) (h:cT a b=some r):Zg Tryz.prog 147 [a.pv,b.pv] (.int .i64 r):=by
 cases h
 exact HC (vals:=[.agg #[.int .i64 a.space,.string a.name],.agg #[.int .i64 b.space,.string b.name]]) (by kernel_rfl) rfl rfl (fun x=>.int _ _) fun w _=>xJ a b w
def strings_Index (s c:Q1):Q2 Int:=if s.size<4294967281 then some (Lib.index s.data.toList c.data.toList) else none
theorem cU (s c:Q1) (r:Int) (h:strings_Index s c=some r):Zg Tryz.prog 58 [.str s,.str c] (.int .i64 r):=by{
unfold strings_Index at h
split at h
rename_i hc
cases h
exact HC (vals:=[.string s,.string c]) (by kernel_rfl) rfl rfl (fun x=>.int _ _) fun w hw=>by
 obtain ⟨m,hm⟩:=hw.1
 exact (Tryz.strings_Index s c m w hc hm).mono fun e w' ⟨e1,e2⟩=>⟨e1,e2 ▸ Below.refl _ _⟩
cases h}
def strings_Contains (s c:Q1):Q2 Bool:=if s.size<4294967281 then some (Lib.contains s.data.toList c.data.toList) else none
theorem W6 (s c:Q1) (r:Bool) (h:strings_Contains s c=some r):Zg Tryz.prog 24 [.str s,.str c] (.bool r):=by{
unfold strings_Contains at h
split at h
rename_i hc
cases h
exact HC (vals:=[.string s,.string c]) (by kernel_rfl) rfl rfl (fun x=>.bool _) fun w hw=>by
 obtain ⟨m,hm⟩:=hw.1
 exact (Tryz.strings_Contains s c m w hc hm).mono fun e w' ⟨e1,e2⟩=>⟨e1,e2 ▸ Below.refl _ _⟩
cases h}
def strings_Cut (s c:Q1):Q2 (Q1×Q1×Bool):=if s.size<4294967281 then some (⟨(Lib.cut s.data.toList c.data.toList).1.toArray⟩,⟨(Lib.cut s.data.toList c.data.toList).2.1.toArray⟩,(Lib.cut s.data.toList c.data.toList).2.2) else none
theorem yL {x:Ctx} (a b:Q1) (c:Bool):Rep x (.tup [.str a,.str b,.bool c]) (.tuple #[.string a,.string b,.bool c]):=.tup _ _ rfl fun i p v hp hv=>by
 match i,hp,hv with
 | 0,hp,hv=>injection hp with hp;injection hv with hv;subst hp hv;exact .str _
 | 1,hp,hv=>injection hp with hp;injection hv with hv;subst hp hv;exact .str _
 | 2,hp,hv=>injection hp with hp;injection hv with hv;subst hp hv;exact .bool _
 | i+3,hp,_=>simp at hp
theorem kB (s c:Q1) (r:Q1×Q1×Bool) (h:strings_Cut s c=some r):Zg Tryz.prog 88 [.str s,.str c] (.tup [.str r.1,.str r.2.1,.bool r.2.2]):=by{
unfold strings_Cut at h
split at h
rename_i hc
cases h
exact HC (vals:=[.string s,.string c]) (by kernel_rfl) rfl rfl (fun x=>yL _ _ _) fun w hw=>by
 obtain ⟨m,hm⟩:=hw.1
 refine (Tryz.strings_Cut s c m w hc hm).mono ?_
 rintro e w' ⟨rfl,n,rfl⟩
 exact ⟨rfl,Below.dn (Below.refl _ _) n⟩
cases h}
def strings_Split (s c:Q1):Q2 (Q3 Q1):=if (s.size<4294967281/\1<=c.size)/\Lib.countB s c<=1000000 then some (Lib.splitB c 0 (Lib.countB s c) s) else none
theorem yM (s c:Q1) (r:Q3 Q1) (h:strings_Split s c=some r):ContractN Tryz.prog 197 [.str s,.str c] (.row 9 1 false (List.map csS r)):=by{
unfold strings_Split at h
split at h
rename_i hc
injection h with h
have hlen:r.length=Lib.countB s c+1:=by rw [<- h];exact Lib.splitB_all c hc.1.2 0 _ s rfl
refine xG (α:=Q1) (vals:=[.string s,.string c]) (enc:=fun x=>[.string x]) (by kernel_rfl) rfl (fun x=>rfl) (fun S w x cs h=>h) (fun x=>rfl) fun w hw=>?_
obtain ⟨m,hm⟩:=hw.1
refine (Tryz.strings_Split s c m w hc.1.1 hm hc.1.2).mono ?_
rintro e w' ⟨rfl,rfl⟩
rw [h,<- hlen]
refine ⟨_,rfl,OwnL.of_row ⟨by simp,.inr ⟨w.heap.size,r.length,_,rfl,Yn _,heap_alloc_new w _,Yn _,?_,by simp,?_⟩⟩,Below.al (Below.refl _ _) _⟩
unfold maxLen;omega
rw [Nat.mul_one,H4 (by simp)]
cases h}
def strings_Join (L:Q3 Q1) (s:Q1):Q2 Q1:=if (0<L.length/\L.length<=140737488355328)/\(Lib.join (L.map (·.data.toList)) s.data.toList).length<=140737488355328 then some ⟨(Lib.join (L.map (·.data.toList)) s.data.toList).toArray⟩ else none
theorem yN (L:Q3 Q1) (s:Q1) (r:Q1) (h:strings_Join L s=some r):Zg Tryz.prog 199 [.sl (List.map csS L),.str s] (.str r):=by{
unfold strings_Join at h
split at h
rename_i hc
cases h
refine bD (by kernel_rfl) rfl (fun x=>.str _) fun x vs hp _=>?_
obtain ⟨v,w,rfl,h1,h2⟩:=args2 hp
obtain rfl:=xH h2
obtain ⟨A,n,c,rfl,hS⟩:=uR hp.flt h1
obtain ⟨q1,q2,q3,q4⟩:=hS
obtain ⟨b,off,css,hA,_,hlt,hx⟩:=q4 (by omega)
subst hA
subst q1
refine Tryz.strings_Join b off c L s x.W (fun j y hy=>?_) hlt hc.1.2 q2 hc.2
obtain ⟨p1,p2⟩:=hx j y hy
have e1:css j = [.string y]:=p1
have:=p2 0 (.string y) (by rw [e1];rfl)
rw [show off+j=off+j * Enc.k Q1+0 by show off+j=off+j * 1+0;omega]
exact this
cases h}
def strings_Repeat (s:Q1) (c:Int):Q2 Q1:=if 0<=c/\c<=9223372036854775807/\s.size * c.toNat<=140737488355328 then some ⟨(Lib.repeatL s.data.toList c.toNat).toArray⟩ else none
theorem cV (s:Q1) (c:Int) (r:Q1) (h:strings_Repeat s c=some r):Zg Tryz.prog 113 [.str s,.int .i64 c] (.str r):=by{
unfold strings_Repeat at h
split at h
rename_i hc
cases h
obtain ⟨n,rfl⟩:∃ n:Nat,c=n:=⟨c.toNat,by omega⟩
exact HC (vals:=[.string s,.int .i64 n]) (by kernel_rfl) rfl rfl (fun x=>.str _) fun w hw=>Tryz.strings_Repeat s n w (by omega) (by simpa using hc.2.2)
cases h}
def SR (s:Q1):Q2 (Int×Q1×Bool):=if s.size<4294967281 then (match BW s.data.toList with | some q=>some (q.1,⟨q.2.toArray⟩,true) | none=>some (0,⟨#[]⟩,false)) else none
theorem yO {x:Ctx} (a:Int) (b:Q1) (c:Bool):Rep x (.tup [.int .i64 a,.str b,.bool c]) (.tuple #[.int .i64 a,.string b,.bool c]):=.tup _ _ rfl fun i p v hp hv=>by
 match i,hp,hv with
 | 0,hp,hv=>injection hp with hp;injection hv with hv;subst hp hv;exact .int _ _
 | 1,hp,hv=>injection hp with hp;injection hv with hv;subst hp hv;exact .str _
 | 2,hp,hv=>injection hp with hp;injection hv with hv;subst hp hv;exact .bool _
 | i+3,hp,_=>simp at hp
theorem yP (s:Q1) (r:Int×Q1×Bool) (h:SR s=some r):Zg Tryz.prog 155 [.str s] (.tup [.int .i64 r.1,.str r.2.1,.bool r.2.2]):=by{
unfold SR at h
split at h
rename_i hc
have hv:PB s.data.toList = .tuple #[.int .i64 r.1,.string r.2.1,.bool r.2.2]:=by
 unfold PB
 cases hp:BW s.data.toList with
 | none=>rw [hp] at h;injection h with h;subst h;rfl
 | some q=>rw [hp] at h;injection h with h;subst h;rfl
exact HC (vals:=[.string s]) (by kernel_rfl) rfl rfl (fun x=>yO _ _ _) fun w hw=>by
 rw [<- hv]
 exact cD s w hc hw.1
cases h}
def SS (s o n:Q1):Q2 Q1:=if (s.size<4294967281/\1<=o.size)/\s.size+Lib.countB s o * n.size<=140737488355328 then some ⟨(Lib.replaceAll s.data.toList o.data.toList n.data.toList).toArray⟩ else none
theorem yQ (s o n r:Q1) (h:SS s o n=some r):Zg Tryz.prog 153 [.str s,.str o,.str n] (.str r):=by{
unfold SS at h
split at h
rename_i hc
injection h with h
subst h
exact HC (vals:=[.string s,.string o,.string n]) (by kernel_rfl) rfl rfl (fun x=>.str _) fun w hw=>by
 obtain ⟨m,hm⟩:=hw.1
 exact (Tryz.strings_ReplaceAll s o n m w hc.1.1 hm hc.1.2 hc.2).mono fun e w' h=>h
cases h}
end
namespace VL
section
variable {P:Program} [WInv P] {α β:Type} {cs:Q3 Code} {Q:Ex->FS->Prop} {s:FS} {tm:Q3 (Nat×PV)} {ob:Q3 (Nat×Q2 (Gen×VObj))} {ng:Nat}
theorem rg {draw:Bool} {id:Nat} {l:Q3 Oper} {q:Prop} (k:q) (h:q->GoL P l.toArray draw 0 l [] s fun s'=>PWs P cs Q ⟨s'.tm,s'.ob,s'.ng+1⟩:=by
 (intro k)
 (refine Zj ?_)
 (exact k)):PWs P (.region id l.toArray draw::cs) Q s:=Zb (h k)
theorem bl {id:Nat} {c:Code} {q:Prop} (k:q) (h:q->PWs P [c] (OP id (PWs P cs Q) Q) s:=by
 (intro k)
 (refine Zj ?_)
 (exact k)):PWs P (.block id c::cs) Q s:=CB (h k)
theorem cS {A B:Q2 β} {r:β} {c:Operand} {x y:Code} {t:Bool} {q1 q2:Prop} (hF:(if t=true then A else B)=some r) (hc:evL tm c = .bool t) (k1:A=some r->q1) (k2:B=some r->q2)
  (h1:q1->PWs P (x::cs) Q (mkS tm ob ng):=by
 (intro k)
 (refine Zj ?_)
 (exact k)) (h2:q2->PWs P (y::cs) Q (mkS tm ob ng):=by
 (intro k)
 (refine Zj ?_)
 (exact k)):PWs P (.cond c x y::cs) Q (mkS tm ob ng):=
 tV hc (fun h=>h1 (k1 (ifT h hF))) fun h=>h2 (k2 (ifF h hF))
theorem kS (t:Nat) {A B:Q2 β} {r:β} {ops:Array Oper} {draw:Bool} {i:Nat} {L:Q3 Oper} {acc:Q3 (Q3 Nat×Q3 Nat)} {K:FS->Prop} {b:Bool} {q1 q2:Prop} (hF:(if b=true then A else B)=some r) (hx:look tm t = .bool b) (k1:A=some r->q1) (k2:B=some r->q2)
  (h1:q1->GoL P ops draw i L acc (mkS ((t,.bool true)::tm) ob ng) K:=by
 (intro k)
 (refine Zj ?_)
 (exact k)) (h2:q2->GoL P ops draw i L acc (mkS ((t,.bool false)::tm) ob ng) K:=by
 (intro k)
 (refine Zj ?_)
 (exact k)):GoL P ops draw i L acc (mkS tm ob ng) K:=
 vG t hx (fun h=>h1 (k1 (ifT h hF))) fun h=>h2 (k2 (ifF h hF))
theorem cF {F:Q2 β} (R:β->PV) {f:FuncId} {fn:Func} {c:Code} {args:Q3 PV} {r:β} (hF:F=some r) (hmix:P.follows .mixedOrders=true) (hf:P.funcs[f]? = some fn)
  (h:∀ r,F=some r->PWs P [c] (MV P fn.results.toList (R r)) (mkS (CJ 0 args) [] 1)) (hg:isGo P f=true:=by kernel_rfl) (hb:fn.body=some c:=by exact rfl) (hok:(decide (args.length<=fn.ntmps)&&B9 fn.ntmps c)=true:=by kernel_rfl):Zg P f args (R r):=
 vO hF hmix hf hg hb hok h
omit [WInv P] in
theorem rQ {res:PV} {rs:Q3 ResultVar} {ps qs:Q3 PV} {us:Q3 (Nat×Q2 (Gen×VObj))} (h1:BJ P s rs=some ps:=by exact rfl) (h2:AV s.ob ps=some (qs,us):=by exact rfl) (h3:BA qs=res:=by exact rfl):MV P rs res .ret s:=FK h1 h2 h3
def sg (σ:Q3 (Nat×Nat×Nat)):Q3 (Gen×Gen):=σ.map fun q=>((1,q.1),q.2)
theorem sR (σ:Q3 (Nat×Nat×Nat)) {tm':Q3 (Nat×PV)} {ob':Q3 (Nat×Q2 (Gen×VObj))} {ng':Nat} (h1:SI (sg σ) tm tm':=by
 (repeat (refine ⟨rfl,?_⟩))
 (exact trivial)) (h2:MZ (sg σ) ob ob':=by
 (repeat (refine ⟨⟨rfl,rfl⟩,?_⟩))
 (exact trivial)) (h3:(decide (0<ng')&&(sg σ).all fun q=>decide (q.1.1<ng'))=true:=by exact rfl):Shift (mkS tm ob ng) (mkS tm' ob' ng'):=
 OV (sg σ) h1 h2 h3
theorem jn {St:α->Nat->FS} {J:α->Prop} (a:α) (h1:J a) (h3:Shift s (St a 2)):SG St J Q .normal s:=LG a 2 h1 h3
theorem rn {St:α->Nat->FS} {J:α->Prop} {m:α->Nat} {a:α} (a':α) (h1:J a') (h3:Shift s (St a' 2)) (h2:m a'<m a:=by exact EK _):SC St J m a Q .normal s:=C6 a' 2 h1 h2 h3
theorem jL {K:α->Q2 β} {f:(α->Q2 β)->Q2 β} {r:β} {c c2:Code} {q1:(α->Q2 β)->Prop} {q2:α->Prop} (hF:letk K f=some r) (St:α->FS) (h1:∀ k,f k=some r->q1 k) (h2:∀ x,K x=some r->q2 x)
  (g1:∀ k:α->Q2 β,q1 k->PWs P [c] (SG (fun a _=>St a) (fun x=>k x=some r) Q) s:=by
 (intro k h)
 (refine Zj ?_)
 (exact h)) (g2:∀ x,q2 x->PWs P (c2::cs) Q (St x):=by
 (intro x h)
 (try dsimp only)
 (refine Zj ?_)
 (exact h)):PWs P (c::c2::cs) Q s:=
 DM (fun a _=>St a) (fun x=>K x=some r) (g1 K (h1 K hF)) fun a _ hJ=>g2 a (h2 a hJ)
end
open Go.RowKit
def PV.dryF:PV->Bool | .fn _ ps=>ps.isEmpty | p=>p.dry1
theorem Rep.dryF {x y:Ctx} {p:PV} {v:Value} (h:Rep x p v) (hp:p.dryF=true):Rep y p v:=by{
cases h with
| fn f ps cs hl hh=>
  have:ps = []:=List.isEmpty_iff.1 hp
  subst this
  exact .fn f [] cs hl fun i p v hq=>by simp at hq
| bool b=>exact .bool b
| int k n=>exact .int k n
| str s=>exact .str s
| _=>simp [PV.dryF,PV.dry1] at hp}
def Dr (x:Ctx) (b:Nat):Prop:=blk (x.ρ (0,0))=some b
structure PreR (x:Ctx) (args:List PV) (E k:Nat) (els:List (List PV)) (vs:Array Value):Prop where
 size:args.length+1=vs.size
 rep:∀ (i:Nat) (p:PV) (v:Value),(PV.row 0 (0,0)::args)[i]? = some p->vs[i]? = some v->Rep x p v
 ob:x.G (0,0)/\ObRep x x.W.heap.size (Dr x) (0,0) (.row E k false els)
 gen:∀ g,x.G g->g.1=0
 flt:∀ b o,x.F b o->b<x.W.heap.size
structure PostR (x y:Ctx) (E k:Nat) (r:PV) (els':List (List PV)) (v:Value):Prop where
 step:Step x y
 gr:Gr (Dr x) x.W y.W
 fnew:∀ b o,y.F b o->x.F b o\/x.W.heap.size<=b\/Dr x b
 flt:∀ b o,y.F b o->b<y.W.heap.size
 rep:Rep y r v
 ob:ObRep y x.W.heap.size (Dr x) (0,0) (.row E k false els')
structure ContractR (P:Program) [WInv P] (f:FuncId) (args:List PV) (E k:Nat) (els:List (List PV)) (r:PV) (els':List (List PV)):Prop where
 isGo:VL.isGo P f=true
 calls:∀ (x:Ctx) (vs:Array Value),PreR x args E k els vs->(∀ W',Gr (Dr x) x.W W'->WInv.I P W')->Calls P f vs x.W fun e W'=>∃ y v,y.W=W'/\e = .returned v/\PostR x y E k r els' v
section
variable {P:Program} [WInv P] {r:Run} {ops:Array Oper} {o:Oper} {i:Nat} {s s':FS}
theorem yR {f:FuncId} {es:Array Operand} {ts:Array TypeId} {post:Q3 PV} {t:Nat} {g:Gen} {E k:Nat} {els els':Q3 (Q3 PV)} {res res':PV} (ho:o.op = .call { callee:=.value (.func f),args:=es,argTypes:=ts })
  (he:es.toList.map (ev s) = .row t g::post) (hob:s.ob t=some (g,.row E k false els)) (hp:post.all PV.dryF=true) (hc:ContractR P f post E k els res els') (hres:res.dry=true/\res'=res\/res = .row 0 (0,0)/\res' = .row t g) (hI:r.I=WInv.I P):OpOK P r o i s ⟨res',[(t,some (g,.row E k false els'))]⟩:=by{
intro S a x Q hX hi hd
have hrep:∀ (j:Nat) (p:PV),(PV.row t g::post)[j]? = some p->Rep x p ((es.map a.eval).getD j undef):=fun j p hp=>by
 rw [<- he,Yw] at hp
 cases he:es.toList[j]? with
 | none=>rw [he] at hp;simp at hp
 | some e=>
   rw [he] at hp
   simp only [Yo,Yp] at hp
   subst hp
   have hea:es[j]? = some e:=by simpa using he
   have:(es.map a.eval).getD j undef=a.eval e:=by simp [hea]
   rw [this]
   exact AD hX e
obtain ⟨hG,hO⟩:=hX.ob t g _ hob
have hlt:=fun b hb=>hO.lt b hb
obtain ⟨q1,q2,vs2,q3,q4,q5⟩:=hO
let z:Ctx:=⟨fun g'=>g'=(0,0),x.F,x.W,fun _=>x.ρ g⟩
have hpre:PreR z post E k els (es.map a.eval):=by
 refine ⟨?_,fun j p v hj hv=>?_,⟨rfl,q1,q2,vs2,q3,fun m p v hm hv=>?_,fun b hb=>⟨.inr hb,(q5 b hb).2⟩⟩,fun g' e=>?_,hX.flt⟩
 have:=CA List.length he
 simp at this
 simp [this]
 cases j with
 | zero=>
   simp only [GI,Yp] at hj
   subst hj
   have:=hrep 0 (.row t g) rfl
   rw [Ym,hv] at this
   simp only [E5] at this
   cases this with
   | row _ _ A n c _ hvv=>exact .row _ _ A n c rfl hvv
 | succ j=>
   have hj':post[j]? = some p:=by simpa using hj
   have:=hrep (j+1) p hj
   rw [Ym,hv] at this
   exact Rep.dryF this (Yq.1 hp p (Yj hj'))
 obtain ⟨e,he,hpe⟩:=FH.1 (Yj hm)
 exact (q4 m p v hm hv).pure_mono (q2 e he p hpe) (fun _ _ h=>h) (fun _ _ _ _ h=>h)
 rw [show g'=(0,0) from e]
have hbig:r.W0.heap.size<=x.W.heap.size:=hX.gr.size
have hcalls:=hc.calls z _ hpre fun W' hW=>by
 rw [<- hI]
 exact hX.inv.1 W' (hX.gr.trans' hW.os hW.tape hW.output hW.size fun b hb hD=>hW.block b (YU hb hbig) fun e=>by
  rcases (hlt b e).2 with h | h
  omega
  exact hD h)
unfold Oper.wp
rw [MR ho hc.isGo,Oper.upon_enter]
refine hcalls.mono ?_
rintro e' W' ⟨y,v,rfl,rfl,hpost⟩
obtain ⟨w1,w2,vs3,w3,w4,w5⟩:=hpost.ob
have hρ:y.ρ (0,0)=x.ρ g:=(hpost.step.G (0,0) rfl).2
rw [hρ] at w3 w5
let y':Ctx:=⟨x.G,y.F,y.W,x.ρ⟩
have k2:Step x y':=⟨fun _ h=>⟨h,rfl⟩,fun b o h=>hpost.step.F b o h,fun b o w hF hw=>hpost.step.W b o w hF hw⟩
refine ⟨y',rfl,hX.change k2 hd hpost.gr.os hpost.gr.tape hpost.gr.output hpost.gr.size (fun b hb hne=>hpost.gr.block b hb fun e=>hne g _ hob e) (fun b o h=>?_) hpost.flt
 (fun g' hg'=>(hX.gens g' hg').imp id fun ⟨e1,e2⟩=>⟨e1,.inl e2⟩) hG ⟨w1,w2,vs3,w3,fun m p v hm hv=>?_,fun b hb=>⟨(hlt b hb).2,(w5 b hb).2⟩⟩ (fun b hb=>.inr ⟨g,_,hob,hb⟩) ?_⟩
rcases hpost.fnew b o h with h1 | h1 | h1
exact .inl h1
exact .inr h1
have:=((w5 b h1).2 o h).1
cases this
obtain ⟨e,he,hpe⟩:=FH.1 (Yj hm)
exact (w4 m p v hm hv).pure_mono (w2 e he p hpe) (fun _ _ h=>h) (fun _ _ _ _ h=>h)
have hr:=hpost.rep
rcases hres with ⟨h1,rfl⟩ | ⟨rfl,rfl⟩
exact hr.dry h1
cases hr with
| row _ _ A n c _ hvv=>exact .row _ _ A n c hG (hρ.symm.trans hvv)}
theorem yS {f:FuncId} {es:Array Operand} {ts:Array TypeId} {post:Q3 PV} {t:Nat} {g:Gen} {E k:Nat} {els els':Q3 (Q3 PV)} {res res':PV} (hw:Zh ops s o=some true) (ho:o.op = .call { callee:=.value (.func f),args:=es,argTypes:=ts })
  (he:es.toList.map (ev s) = .row t g::post) (hob:s.ob t=some (g,.row E k false els)) (hp:post.all PV.dryF=true) (hc:ContractR P f post E k els res els') (hres:res.dry=true/\res'=res\/res = .row 0 (0,0)/\res' = .row t g):OpR P ops i o s ⟨res',[(t,some (g,.row E k false els'))]⟩:=.any hw fun s' r hA hI=>by
 obtain ⟨e1,e2,_⟩:=OW ho hA
 refine yR ho (by rw [e1,he]) ?_ hp hc hres hI
 rw [<- e2 (.row t g) (by rw [he];simp) t (by simp [IE,CR,C4,AB])]
 exact hob
end
section
variable {P:Program} [WInv P] {ops:Array Oper} {draw:Bool} {i:Nat} {L:Q3 Oper} {acc:Q3 (Q3 Nat×Q3 Nat)} {K:FS->Prop} {tm:Q3 (Nat×PV)} {ob:Q3 (Nat×Q2 (Gen×VObj))} {ng:Nat}
 {d:Q2 Tmp} {ty:TypeId} {pos:String} {after:Array Edge} {gd:Q2 (Nat×Bool)}
theorem IL {f:FuncId} {es:Array Operand} {ts:Array TypeId} {post:Q3 PV} {t:Nat} {g:Gen} {E k:Nat} {els els':Q3 (Q3 PV)} {res:PV} (hc:ContractR P f post E k els res els') (hw:Zh ops (mkS tm ob ng) ⟨d,.call ⟨.value (.func f),es,ts⟩,ty,pos,after,gd⟩=some true)
  (he:es.toList.map (evL tm) = .row t g::post) (hob:Zn ob t=some (g,.row E k false els)) (hp:post.all PV.dryF=true) (hd:res.dry=true)
  (kk:GoL P ops draw (i+1) L (acc ++ [(ZD (mkS tm ob ng) ⟨d,.call ⟨.value (.func f),es,ts⟩,ty,pos,after,gd⟩,[t])]) (mkS (A5 d res tm) ((t,some (g,.row E k false els'))::ob) ng) K) :
  GoL P ops draw i (⟨d,.call ⟨.value (.func f),es,ts⟩,ty,pos,after,gd⟩::L) acc (mkS tm ob ng) K:=by
 refine CH (yS hw rfl (by rw [ZZ];exact he) hob hp hc (.inl ⟨hd,rfl⟩)) ?_
 rw [CG]
 exact kk
end
def N5 (args:Q3 PV) (E k:Nat) (els:Q3 (Q3 PV)):FS:=⟨fun t=>(PV.row 0 (0,0)::args).getD t (.tup []),Zn [(0,some ((0,0),.row E k false els))],1⟩
theorem PD {args:Q3 PV} {E k:Nat} {els:Q3 (Q3 PV)} {t:Nat} {g:Gen} {o:VObj} (h:(N5 args E k els).ob t=some (g,o)):t=0/\g=(0,0)/\o = .row E k false els:=by{
change (if t=0 then some ((0,0),VObj.row E k false els) else none)=some (g,o) at h
split at h
rename_i e
injection h with h
injection h with e1 e2
exact ⟨e,e1.symm,e2.symm⟩
cases h}
def W7 (P:Program) (rs:Q3 ResultVar) (res:PV) (E k:Nat) (els':Q3 (Q3 PV)):Ex->FS->Prop | .exit _,_=>False | _,s=>∃ ps,BJ P s rs=some ps/\BA ps=res/\s.ob 0=some ((0,0),.row E k false els')
theorem kC {P:Program} {s:FS} {rs:Q3 ResultVar} {res:PV} {E k:Nat} {els':Q3 (Q3 PV)} {ps:Q3 PV} (h1:BJ P s rs=some ps) (h2:BA ps=res) (h3:s.ob 0=some ((0,0),.row E k false els')):W7 P rs res E k els' .ret s:=⟨ps,h1,h2,h3⟩
theorem N6 {P:Program} {s:FS} {rs:Q3 ResultVar} {res:PV} {E k:Nat} {els':Q3 (Q3 PV)} {ps:Q3 PV} (h1:BJ P s rs=some ps) (h2:BA ps=res) (h3:s.ob 0=some ((0,0),.row E k false els')):W7 P rs res E k els' .normal s:=⟨ps,h1,h2,h3⟩
section
variable {P:Program} [WInv P]
theorem kD (hmix:P.follows .mixedOrders=true) {f:FuncId} {fn:Func} {c:Code} {args:Q3 PV} {E k:Nat} {els els':Q3 (Q3 PV)} {e:Ex} {s1:FS} {ps:Q3 PV} {res:PV}
  (hg:isGo P f=true) (hf:P.funcs[f]? = some fn) (hb:fn.body=some c) (hn:args.length+1<=fn.ntmps) (hok:B9 fn.ntmps c=true) (hrun:RunC P c (N5 args E k els) e s1) (he:e = .normal\/e = .ret)
  (hres:BJ P s1 fn.results.toList=some ps) (hps:BA ps=res) (hob:s1.ob 0=some ((0,0),.row E k false els')):ContractR P f args E k els res els':=by{
subst hps
refine ⟨hg,fun x vs hpre hinv=>?_⟩
let r:Run:=⟨x.W,Dr x,(vs++Array.replicate (fn.ntmps-vs.size) undef).size,x.F,x.G,x.ρ,WInv.I P⟩
have hNr:r.N=fn.ntmps:=by
 have:=hpre.size
 simp [r]
 omega
have hX:RstX r (fun _=>False) (N5 args E k els) { tmps:=vs++Array.replicate (fn.ntmps-vs.size) undef,defers:=[] } x:=by
 refine ⟨rfl,rfl,Gr.refl _ _,fun g hg=>?_,fun t=>?_,fun t g o ho=>?_,fun t t' g g' o o' b hne h1 h2 hb1 hb2=>?_,hpre.flt,fun _ _ h=>h,fun _ _ h=>.inl h,fun _ h=>⟨h,rfl⟩,⟨hinv,hpre.gen⟩,fun _ _ _ _ h=>h⟩
 rw [hpre.gen g hg]
 exact .inl RO
 show Rep x ((PV.row 0 (0,0)::args).getD t (.tup [])) _
 rw [Ym,O8,IW]
 by_cases ht:t<vs.size
 have hl:t<(PV.row 0 (0,0)::args).length:=by
  rw [Yr,hpre.size]
  exact ht
 rw [if_pos ht,Yc hl,Yu ht]
 exact hpre.rep t _ _ (Yc hl) (Yu ht)
 rw [if_neg ht,YZ (by rw [Yr,hpre.size];omega)]
 have:(Array.replicate (fn.ntmps-vs.size) undef)[t-vs.size]?.getD undef=undef:=by
  rw [RD]
  split<;>rfl
 rw [this]
 exact .tup [] #[] rfl (fun i p v hp=>by simp at hp)
 obtain ⟨rfl,rfl,rfl⟩:=PD ho
 exact hpre.ob
 exact absurd ((PD h1).1.trans (PD h2).1.symm) hne
refine calls_of_wp hf hb ?_
refine (SB hmix hrun).1 r _ x _ ⟨rfl,by rw [hNr];exact hok⟩ hX fun a' y hY=>?_
obtain ⟨ws,h1,h2,h3⟩:=ON hY fn.results.toList hres
have hstep:Step x y:=⟨fun g hg=>hY.rho g hg,fun b o hb=>hY.f0 b o hb,fun b o v hb hv=>hY.keep b o v hb hv⟩
have hend:(results fn a'.tmps).run P y.W = .ok (if ws.length=1 then ws.getD 0 undef else .tuple ws.toArray) y.W:=by
 have:(fn.results.mapM (GP a')).run P y.W = .ok ws.toArray y.W:=by
  rw [O7,MI,Sem.run_bind,h1]
  rfl
 have e:results fn a'.tmps=(fn.results.mapM (GP a') >>= fun vs=>pure (if h:vs.size=1 then vs[0] else .tuple vs)):=by
  unfold results
  congr 1
 rw [e,Sem.run_bind,this]
 simp only [Result.andThen_ok,Sem.run_pure]
 congr 1
 by_cases hl:ws.length=1
 simp [hl]
 simp [hl]
have hfin:∃ v,(results fn a'.tmps).run P y.W = .ok v y.W/\(fun e W'=>∃ y v,y.W=W'/\e=Ending.returned v/\PostR x y E k (BA ps) els' v) (Ending.returned v) y.W:=by
 refine ⟨_,hend,y,_,rfl,rfl,hstep,hY.gr,hY.fnew,hY.flt,?_,(hY.ob 0 _ _ hob).2⟩
 have hlq:ps.length=ws.length:=h2.symm
 unfold BA
 split
 rename_i p
 rw [if_pos (by simpa using hlq.symm)]
 exact h3 0 p rfl
 rename_i hne
 have hn1:¬ ws.length=1:=fun h=>by
  rw [h] at hlq
  match ps,hlq with
  | [q],_=>exact hne q rfl
 rw [if_neg hn1]
 refine .tup ps ws.toArray (by simpa using hlq) fun j q v hq hv=>?_
 have:=h3 j q hq
 have hv':ws[j]? = some v:=by simpa using hv
 rw [IW,hv'] at this
 exact this
rcases he with rfl | rfl
exact ⟨hY.defers,hfin⟩
exact ⟨hY.defers,hfin⟩}
theorem yT (hmix:P.follows .mixedOrders=true) {f:FuncId} {fn:Func} {c:Code} {args:Q3 PV} {E k:Nat} {els els':Q3 (Q3 PV)} {res:PV} (hf:P.funcs[f]? = some fn) (hg:isGo P f=true) (hb:fn.body=some c) (hok:(decide (args.length+1<=fn.ntmps)&&B9 fn.ntmps c)=true)
  (h:PWs P [c] (W7 P fn.results.toList res E k els') (mkS (CJ 0 (.row 0 (0,0)::args)) [(0,some ((0,0),.row E k false els))] 1)):ContractR P f args E k els res els':=by{
simp only [YH,YT] at hok
obtain ⟨e,s',h1,h2⟩:=J8 h
have hsh:Shift (N5 args E k els) (mkS (CJ 0 (.row 0 (0,0)::args)) [(0,some ((0,0),.row E k false els))] 1):=OQ (fun t=>by
 rcases MW (PV.row 0 (0,0)::args) 0 t with h | ⟨_,h⟩
 exact .inl h
 exact .inr h) (fun t=>.inr rfl) (Yn _)
cases e with
| exit id=>exact h2.elim
| normal=>
  obtain ⟨ps,q1,q2,q3⟩:=h2
  exact kD hmix hg hf hb hok.1 hok.2 (.shift hsh h1) (.inl rfl) q1 q2 q3
| ret=>
  obtain ⟨ps,q1,q2,q3⟩:=h2
  exact kD hmix hg hf hb hok.1 hok.2 (.shift hsh h1) (.inr rfl) q1 q2 q3}
end
open Go.RowKit
theorem PE {P:Program} [WInv P] {β:Type} {F:Q2 β} {R:β->PV} {O:β->Q3 (Q3 PV)} {f:FuncId} {fn:Func} {c:Code} {args:Q3 PV} {E k:Nat} {els:Q3 (Q3 PV)} {r:β} (hF:F=some r) (hmix:P.follows .mixedOrders=true) (hf:P.funcs[f]? = some fn) (hg:isGo P f=true) (hb:fn.body=some c) (hok:(decide (args.length+1<=fn.ntmps)&&B9 fn.ntmps c)=true)
  (h:∀ r,F=some r->PWs P [c] (W7 P fn.results.toList (R r) E k (O r)) (mkS (CJ 0 (.row 0 (0,0)::args)) [(0,some ((0,0),.row E k false els))] 1)):ContractR P f args E k els (R r) (O r):=yT hmix hf hg hb hok (h r hF)
def dn:PV->PV | .nil=>.sl [] | p=>p
theorem kE {x:Ctx} {p:PV} {v:Value} (h:Rep x p v):Rep x (dn p) v:=by{
cases h with
| nil=>exact .sl [] none 0 0 0 0 0 (fun _ _=>.int .i64 0) rfl (Yn _) (by omega) (by simp) (by omega) (by simp) (by simp)
| bool b=>exact .bool b
| int k n=>exact .int k n
| str s=>exact .str s
| un v=>exact .un v
| agg ps cs hl h=>exact .agg ps cs hl h
| tup ps cs hl h=>exact .tup ps cs hl h
| sl els A n c k b off f h1 h2 h3 h4 h5 h6 h7=>exact .sl els A n c k b off f h1 h2 h3 h4 h5 h6 h7
| ptr t g off b h1 h2=>exact .ptr t g off b h1 h2
| elp t g i k off b h1 h2=>exact .elp t g i k off b h1 h2
| row t g A n c h1 h2=>exact .row t g A n c h1 h2
| suf t g i k A A' n c c' h1 h2 h3 h4 h5=>exact .suf t g i k A A' n c c' h1 h2 h3 h4 h5
| cel cs b off f h1 h2=>exact .cel cs b off f h1 h2
| fn f ps cs hl h=>exact .fn f ps cs hl h}
open Go.RowKit
section
variable {P:Program} {r:Run} {o:Oper} {i:Nat} {s:FS}
theorem W8 {x:Ctx} {B:Nat} {D:Nat->Prop} {g:Gen} {E k m c:Nat} {sh:Bool} {els:Q3 (Q3 PV)} {A:Q2 Addr} (h:ObRep x B D g (.row E k sh els)) (hv:x.ρ g = .slice A m c) :
  m=els.length/\els.length<=c/\c<=9223372036854775807/\(0<els.length->∃ b,A=some ⟨b,0,none⟩):=by{
obtain ⟨_,_,vs,h3,_,_⟩:=h
rcases h3.2 with ⟨hn,hl⟩ | ⟨b,cap,cur,hv2,_,_,hc,hm,_⟩
rw [hv] at hn
injection hn with e1 e2 e3
exact ⟨by omega,by omega,by omega,fun h=>by omega⟩
rw [hv] at hv2
injection hv2 with e1 e2 e3
subst e3
exact ⟨e2,hc,by unfold maxLen at hm;omega,fun _=>⟨b,e1⟩⟩}
theorem yU {T:TypeId} {e w:Operand} {E E' a1 a2 t k n:Nat} {a3:Q3 PV} {te:TI} {g:Gen} {sh:Bool} {els:Q3 (Q3 PV)} (ho:o.op = .slice T e (some w) none none) (ht:tyI P T=some ⟨.slice E,a1,a2,a3⟩) (hte:tyI P E=some te)
  (he:ev s e = .row t g) (hob:A6 s.ob t g=some (.row E' k sh els)) (hn:toNat? (ev s w)=some n) (hnl:n<=els.length) (hk:k=te.size):OpOK P r o i s ⟨.suf t g n k,[]⟩:=by{
intro S a x Q hX hi hd
subst hk
obtain ⟨inf,z,h1,_⟩:=ZN ht
obtain ⟨inf',z',h1',h2',_,h4',_,_⟩:=ZN hte
have hr:=AD hX e
obtain ⟨kd,hw⟩:=ID hn (AD hX w)
obtain ⟨hg,hO⟩:=hX.ob t g _ (ZY hob)
rw [he] at hr
generalize hv:a.eval e=v at hr
cases hr with
| row _ _ A m c hG hvv=>
  obtain ⟨rfl,hlc,hcm,hA⟩:=W8 hO hvv
  have hb:(Instr.sliceBounds true els.length c (some (a.eval w)) none none).run P x.W = .ok (n,els.length,c) x.W:=by
   simp [Instr.sliceBounds,Instr.sliceBound,asIntOf,hw,hnl]
  refine ZU (v:=.slice (if c=n then A else A.map (·.add (n * te.size))) (els.length-n) (c-n)) (W':=x.W) ?_ (hX.val hd ?_)
  unfold execOp
  rw [ho]
  simp [hv,Instr.sliceAt,Instr.slice,run_underlying h1,hb,sizeOf,typeInfo,h2',h4']
  refine .suf t g n te.size A _ els.length c _ hG hvv hnl ⟨hlc,hcm⟩ fun hlt=>?_
  obtain ⟨b,rfl⟩:=hA (by omega)
  exact ⟨b,rfl,by rw [if_neg (by omega)];simp only [Yo,EP,YY]⟩}
theorem yV {T:TypeId} {e:Operand} {E E' a1 a2 t k k' n:Nat} {a3:Q3 PV} {g:Gen} {sh:Bool} {els:Q3 (Q3 PV)} (ho:o.op = .call { callee:=.builtin .len,args:=#[e],argTypes:=#[T] }) (ht:tyI P T=some ⟨.slice E,a1,a2,a3⟩)
  (he:ev s e = .suf t g n k) (hob:A6 s.ob t g=some (.row E' k' sh els)):OpOK P r o i s ⟨.int .i64 ((els.length-n:Nat):Int),[]⟩:=by{
intro S a x Q hX hi hd
obtain ⟨inf,z,h1,_⟩:=ZN ht
have hr:=AD hX e
obtain ⟨hg,hO⟩:=hX.ob t g _ (ZY hob)
rw [he] at hr
generalize hv:a.eval e=v at hr
cases hr with
| suf _ _ _ _ A A' m c c' hG hvv h3 h4 h5=>
  obtain ⟨rfl,_⟩:=W8 hO hvv
  refine ZU (v:=.int .i64 ((els.length-n:Nat):Int)) (W':=x.W) ?_ (hX.val hd (.int _ _))
  unfold execOp
  rw [ho]
  simp [resolve,invoke,builtin,Builtin.len_,hv,run_underlying h1,goInt]}
theorem yW {T:TypeId} {e e':Operand} {E E' a1 a2 t k q n:Nat} {a3:Q3 PV} {te:TI} {g:Gen} {sh:Bool} {els:Q3 (Q3 PV)} (ho:o.op = .indexAddr T e e') (ht:tyI P T=some ⟨.slice E,a1,a2,a3⟩) (hte:tyI P E=some te) (he:ev s e = .suf t g q k)
  (hn:toNat? (ev s e')=some n) (hob:A6 s.ob t g=some (.row E' k sh els)) (hnl:q+n<els.length) (hk:k=te.size):OpOK P r o i s ⟨.elp t g (q+n) k 0,[]⟩:=by{
intro S a x Q hX hi hd
subst hk
obtain ⟨inf,z,h1,_⟩:=ZN ht
obtain ⟨inf',z',h1',h2',_,h4',_,_⟩:=ZN hte
have hr:=AD hX e
obtain ⟨kd,hidx⟩:=ID hn (AD hX e')
have key:∀ (ad:Addr) (len cap:Nat),a.eval e = .slice (some ad) len cap->n<len->(execOp a.eval o).run P x.W = .ok (.value (.pointer (some (ad.add (n * te.size))))) x.W:=fun ad len cap hv hlt=>by
 unfold execOp
 rw [ho]
 have:(0:Int)<=n/\(n:Int)<len:=by omega
 simp [hv,hidx,Instr.indexAt,asIntOf,run_underlying h1,sizeOf,typeInfo,h2',h4',hlt]
rw [he] at hr
obtain ⟨hg,hO⟩:=hX.ob t g _ (ZY hob)
generalize hv:a.eval e=v at hr key
cases hr with
| suf _ _ _ _ A A' m c c' hG hvv h3 h4 h5=>
  obtain ⟨rfl,_⟩:=W8 hO hvv
  obtain ⟨b,rfl,rfl⟩:=h5 (by omega)
  refine ZU (key _ _ _ rfl (by omega)) (hX.val hd ?_)
  rw [EP,<- RU]
  have:=Rep.elp (x:=x) t g (q+n) te.size 0 b hG (by rw [hvv];rfl)
  rw [EO] at this
  exact this}
theorem yX {T:TypeId} {e w:Operand} {E E0 a1 a2 t k n:Nat} {a3:Q3 PV} {te:TI} {g:Gen} {els:Q3 (Q3 PV)} (ho:o.op = .slice T e none (some w) none) (ht:tyI P T=some ⟨.slice E,a1,a2,a3⟩) (hte:tyI P E=some te)
  (he:ev s e = .row t g) (hob:A6 s.ob t g=some (.row E0 k false els)) (hn:toNat? (ev s w)=some n) (hnl:n<=els.length):OpOK P r o i s ⟨.row t (s.ng,i),[(t,some ((s.ng,i),.row E0 k false (els.take n)))]⟩:=by{
intro S a x Q hX hi hd
obtain ⟨inf,z,h1,_⟩:=ZN ht
obtain ⟨inf',z',h1',h2',_,h4',_,_⟩:=ZN hte
have hr:=AD hX e
obtain ⟨kd,hw⟩:=ID hn (AD hX w)
have hob':=ZY hob
obtain ⟨hg,hO⟩:=hX.ob t g _ hob'
obtain ⟨q1,q2,vs,h3,q4,q5⟩:=hO
rw [he] at hr
generalize hv:a.eval e=v at hr
cases hr with
| row _ _ A m c hG hvv=>
  rw [hvv] at h3
  have hmc:m=els.length/\els.length<=c/\(A=none/\c=0/\els.length=0\/∃ b,A=some ⟨b,0,none⟩):=by
   rcases h3.2 with ⟨hn0,hl⟩ | ⟨b,cap,cur,hv2,_,_,hc,_⟩
   injection hn0 with e1 e2 e3
   exact ⟨by omega,by omega,.inl ⟨e1,by omega,hl⟩⟩
   injection hv2 with e1 e2 e3
   subst e3
   exact ⟨e2,hc,.inr ⟨b,e1⟩⟩
  obtain ⟨rfl,hlc,hA⟩:=hmc
  have hb:(Instr.sliceBounds true els.length c none (some (a.eval w)) none).run P x.W = .ok (0,n,c) x.W:=by
   have hhc:(0:Int)<=n/\(n:Int)<=c:=by omega
   have hhc2:n<=c:=by omega
   simp [Instr.sliceBounds,Instr.sliceBound,asIntOf,hw,hhc2]
  have hsame:(if c=0 then A else A.map (·.add (0 * te.size)))=A:=by
   rcases hA with ⟨rfl,rfl,_⟩ | ⟨b,rfl⟩
   rfl
   split
   rfl
   simp only [Yo,EP,OE,EO]
  refine ZU (v:=.slice A n c) (W':=x.W) ?_ ?_
  unfold execOp
  rw [ho]
  have hb':=hb
  simp [hv,Instr.sliceAt,Instr.slice,run_underlying h1,hb',sizeOf,typeInfo,h2',h4']
  have:=hsame
  simp at this
  exact this
  refine hX.newObj hi hd rfl rfl rfl (Yn _) (fun b hb _=>rfl) (fun b o v hF hv=>hv) (v0:=.slice A n c) (fun b hb=>.inr ⟨g,_,hob',?_⟩) (fun y st hF hW hρ=>⟨fun el hel=>q1 el (EJ hel),fun el hel=>q2 el (EJ hel),vs.take (n * k),?_,fun m' q u hq hu=>?_,fun b hb=>⟨?_,fun o ho=>?_⟩⟩) (fun y st hW hG hρ=>.row _ _ _ _ _ hG hρ)
  rw [hvv]
  rcases hA with ⟨rfl,rfl,_⟩ | ⟨b',rfl⟩
  simp [blk] at hb
  exact hb
  rw [hρ,hW]
  have hlt:(els.take n).length=n:=by rw [YE];omega
  rw [hlt]
  have hvl:vs.length=els.length * k:=h3.1
  have hnk:n * k<=els.length * k:=H5 _ hnl
  refine ⟨by rw [YE];omega,?_⟩
  rcases h3.2 with ⟨hn0,hl⟩ | ⟨b,cap,cur,hv2,hB,hh,hc,hm,hs,htk⟩
  injection hn0 with e1 e2 e3
  exact .inl ⟨by rw [e1,e3,show n=0 by omega],by omega⟩
  injection hv2 with e1 e2 e3
  subst e1 e3
  refine .inr ⟨b,c,cur,rfl,hB,hh,by omega,hm,hs,?_⟩
  rw [<- htk,List.take_take,Nat.min_eq_left hnk]
  have hlf:(els.take n).flatten=els.flatten.take (n * k):=by
   have h6:els.flatten=(els.take n).flatten++(els.drop n).flatten:=by rw [<- MG,YQ]
   have h7:(els.take n).flatten.length=n * k:=by
    rw [BQ (k:=k) _ (fun el hel=>q1 el (EJ hel)),YE]
    have:min n els.length=n:=by omega
    rw [this]
   rw [h6,<- h7,List.take_left']
   rfl
  rw [hlf,FF] at hq
  rw [FF] at hu
  split at hq
  rename_i hm'
  rw [if_pos hm'] at hu
  exact (q4 m' q u hq hu).step st
  cases hq
  rw [hρ] at hb
  refine (q5 b ?_).1
  rw [hvv]
  rcases hA with ⟨rfl,rfl,_⟩ | ⟨b',rfl⟩
  simp [blk] at hb
  exact hb
  rw [hρ] at hb
  rw [hF] at ho
  refine absurd ((q5 b ?_).2 o ho).1 (by decide)
  rw [hvv]
  rcases hA with ⟨rfl,rfl,_⟩ | ⟨b',rfl⟩
  simp [blk] at hb
  exact hb}
theorem yY {T:TypeId} {e:Operand} {E E' a1 a2 t k q:Nat} {a3 zc:Q3 PV} {te:TI} {g:Gen} {els:Q3 (Q3 PV)} (ho:o.op = .call { callee:=.builtin .clear,args:=#[e],argTypes:=#[T] }) (ht:tyI P T=some ⟨.slice E,a1,a2,a3⟩) (hte:tyI P E=some te)
  (he:ev s e = .suf t g q k) (hob:A6 s.ob t g=some (.row E' k false els)) (hk:k=te.size) (hz:te.zero.map dn=zc) (hp:∀ p ∈ zc,p.pure=true) (hlen:te.zero.length=te.size) (hpos:0<te.size) :
  OpOK P r o i s ⟨.tup [],[(t,some (g,.row E' k false (els.take q++List.replicate (els.length-q) zc)))]⟩:=by{
intro S a x Q hX hi hd
subst hk
obtain ⟨inf,z,h1,_⟩:=ZN ht
obtain ⟨inf',z',h1',h2',h3',h4',h5',h6'⟩:=ZN hte
have hr:=AD hX e
have hob':=ZY hob
obtain ⟨hg,hO⟩:=hX.ob t g _ hob'
have hO':=hO
obtain ⟨h1e,h2e,vs,h3e,h4e,h5e⟩:=hO
rw [he] at hr
generalize hv:a.eval e=v at hr
have htup:Rep x (.tup []) (.tuple #[]):=.tup [] #[] rfl (fun i p v hp=>by simp at hp)
cases hr with
| suf _ _ _ _ A A' m c c' hG hvv h3 h4 h5=>
  obtain ⟨rfl,_,_,_⟩:=W8 hO' hvv
  by_cases hlt:q<els.length
  obtain ⟨b,rfl,rfl⟩:=h5 hlt
  rcases h3e.2 with ⟨hn,_⟩ | ⟨b2,cap,cur,hv2,hB2,hh,hnc,hcm2,hcs,htake⟩
  rw [hvv] at hn
  cases hn
  rw [hvv] at hv2
  injection hv2 with q1 q2 q3
  injection q1 with q1
  injection q1 with q1
  subst q1 q3
  obtain ⟨m,hm⟩:∃ m,els.length-q=m+1:=⟨els.length-q-1,by omega⟩
  have hzs:z'.cells.size=te.size:=by rw [<- hlen,h6'];simp
  have hzl:zc.length=te.size:=by rw [<- hz,Yv,hlen]
  have hvl:vs.length=els.length * te.size:=h3e.1
  have hcap:els.length * te.size<=c * te.size:=H5 _ hnc
  have hsum:q * te.size+(els.length-q) * te.size=els.length * te.size:=by rw [<- RU];congr 1;omega
  generalize hcl:(Builtin.zeroCells z'.cells (els.length-q)).toList=zs
  have hzsl:zs.length=(els.length-q) * te.size:=by rw [<- hcl];simp [Builtin.zeroCells,hzs]
  have hzone:∀ v ∈ zs,v.oneCell'=true:=fun v hv=>by
   rw [<- hcl] at hv
   obtain ⟨j,hj⟩:=YA hv
   have hj2:=hj
   simp only [Builtin.zeroCells,GJ,OA] at hj
   have hjl:j<(els.length-q) * z'.cells.size:=by
    have:=(Yd.1 hj2).1
    simpa [Builtin.zeroCells] using this
   rw [RG,if_pos hjl] at hj
   simp only [Yo,Yp] at hj
   have hj3:j % z'.cells.size<z'.cells.size:=JY _ (by omega)
   rw [JX z'.cells _ hj3] at hj
   have hq:zc[j % z'.cells.size]? = some (dn (E7 z'.cells[j % z'.cells.size])):=by rw [<- hz,h6'];simp [hj3]
   have:=(kE (K1 x z'.cells[j % z'.cells.size])).one (PV.cell_of_pure (hp _ (Yj hq)))
   rw [hj] at this
   exact this
  have hreps:∀ (j:Nat) (p:PV) (v:Value),(List.replicate (els.length-q) zc).flatten[j]? = some p->zs[j]? = some v->Rep x p v:=fun j p v hp hv=>by
   have hk:∀ e ∈ List.replicate (els.length-q) zc,e.length=te.size:=fun e he=>by rw [YW he,hzl]
   have hjl:j<(els.length-q) * te.size:=by
    have:=(Yd.1 hp).1
    rw [BQ _ hk] at this
    simpa using this
   have hi':j / te.size<els.length-q:=KY (by rw [EN];exact hjl)
   have hj':j % te.size<te.size:=JY _ hpos
   have hem:j / te.size * te.size+j % te.size=j:=by rw [EN];exact MJ j _
   have he:(List.replicate (els.length-q) zc)[j / te.size]? = some zc:=by rw [UE,if_pos hi']
   have hj2:j % te.size<z'.cells.size:=by rw [hzs];exact hj'
   have hq:zc[j % te.size]? = some (dn (E7 z'.cells[j % te.size])):=by rw [<- hz,h6'];simp [hj2]
   have:=IC (k:=te.size) (List.replicate (els.length-q) zc) hk _ _ _ _ he hq
   rw [hem,hp] at this
   injection this with this
   subst this
   rw [<- hcl] at hv
   simp only [Builtin.zeroCells,GJ,OA] at hv
   rw [RG,if_pos (by rw [hzs];exact hjl),hzs] at hv
   simp only [Yo,Yp] at hv
   rw [JX z'.cells (j % te.size) hj2] at hv
   subst hv
   exact kE (K1 x _)
  have hst:=run_storeCells_at P b (q * te.size) E' zs 0 cur x.W hh (by omega) hzone
  simp only [EO] at hst
  have hF:∀ b' o',x.F b' o'->b'≠b:=fun b' o' hFF e=>by
   subst e
   have:=((h5e b' (by rw [hvv];rfl)).2 o' hFF).1
   cases this
  let W':=x.W.setRow b (cur.toList.take (q * te.size)++zs++cur.toList.drop (q * te.size+zs.length)).toArray
  have k2:Step x ⟨x.G,x.F,W',x.ρ⟩:=⟨fun _ h=>⟨h,rfl⟩,fun _ _ h=>h,fun b' o' v' hFF hv'=>(UW x.W b _ (hF b' o' hFF)).trans hv'⟩
  have hsz:W'.heap.size=x.W.heap.size:=by simp [W',World.setRow]
  have hlen2:(els.take q++List.replicate (els.length-q) zc).length=els.length:=by simp;omega
  refine ZU (v:=.tuple #[]) (W':=W') ?_ ⟨⟨x.G,x.F,W',x.ρ⟩,rfl,?_⟩
  unfold execOp
  rw [ho]
  have hzv:∀ w,(zeroValue E).run P w = .ok z' w:=fun w=>by simp [zeroValue,typeInfo,h2',h3']
  simp [resolve,invoke,builtin,Builtin.clear_,hv,run_underlying h1,hzv,hm]
  rw [<- hm,hcl,hst]
  simp [W']
  refine hX.change k2 hd rfl rfl rfl (by rw [hsz];exact Yn _) (fun b' hb' hne=>setRow_other x.W b b' _ (fun e=>hne g _ hob' (by rw [hvv,e];rfl))) (fun _ _ h=>.inl h) (fun b' o' hb'=>by show b'<W'.heap.size;rw [hsz];exact hX.flt b' o' hb')
   (fun g' hg'=>(hX.gens g' hg').imp id fun ⟨e1,e2⟩=>⟨e1,.inl e2⟩) hg ?_ (fun b' hb'=>.inr ⟨g,_,hob',hb'⟩) (htup.step k2)
  refine ⟨fun e2 he2=>?_,fun e2 he2 p hpp=>?_,vs.take (q * te.size)++zs++vs.drop (q * te.size+zs.length),?_,fun m' p v' hpp hvv'=>?_,fun b' hb'=>⟨(h5e b' hb').1,fun o' hFF=>?_⟩⟩
  rcases YD.1 he2 with h | h
  exact h1e e2 (EJ h)
  rw [YW h,hzl]
  rcases YD.1 he2 with h | h
  exact h2e e2 (EJ h) p hpp
  rw [YW h] at hpp
  exact hp p hpp
  refine ⟨?_,.inr ⟨b,c,_,by change x.ρ g=_;rw [hvv,hlen2],hB2,setRow_heap x.W b cur _ E' (0,0) hh,by rw [hlen2];exact hnc,hcm2,?_,?_⟩⟩
  rw [hlen2];simp;omega
  simp;omega
  rw [hlen2,<- htake]
  exact aF cur.toList zs (q * te.size) (els.length * te.size) (by omega) (by have e:cur.toList.length=cur.size:=(by simp);omega)
  have hflat:(els.take q++List.replicate (els.length-q) zc).flatten=els.flatten.take (q * te.size)++(List.replicate (els.length-q) zc).flatten++els.flatten.drop (q * te.size+((List.replicate (els.length-q) zc).flatten).length):=by
   have hkz:∀ e ∈ List.replicate (els.length-q) zc,e.length=te.size:=fun e he=>by rw [YW he,hzl]
   have e1:(els.take q).flatten=els.flatten.take (q * te.size):=by
    conv=>rhs;rw [<- YQ q els,MG]
    have:(els.take q).flatten.length=q * te.size:=by
     rw [BQ _ (fun e he=>h1e e (EJ he)),YE]
     congr 1
     omega
    rw [<- this,ML]
   rw [MG,e1,BQ _ hkz,MF,hsum,<- BQ els h1e,GL,YB]
  have hpp':=hpp
  rw [hflat] at hpp'
  have hkz:∀ e ∈ List.replicate (els.length-q) zc,e.length=te.size:=fun e he=>by rw [YW he,hzl]
  have hrl:(List.replicate (els.length-q) zc).flatten.length=zs.length:=by rw [BQ _ hkz,MF,hzsl]
  rcases written (by rw [BQ els h1e,hvl]) hrl (by rw [BQ els h1e,hrl,hzsl];omega) hpp' hvv' with ⟨e1,e2⟩ | ⟨j,e1,e2⟩
  exact (h4e m' p v' e1 e2).step k2
  exact (hreps j p v' e1 e2).step k2
  rw [hlen2]
  exact (h5e b' hb').2 o' hFF
  have e0:els.take q++List.replicate (els.length-q) zc=els:=by
   rw [show els.length-q=0 by omega,List.replicate_zero,YB,H4 (by omega)]
  rw [e0]
  refine ZU (v:=.tuple #[]) (W':=x.W) ?_ ⟨x,rfl,?_⟩
  unfold execOp
  rw [ho]
  rw [show els.length-q=0 by omega] at hv
  cases A'<;>simp [resolve,invoke,builtin,Builtin.clear_,hv,run_underlying h1]
  exact hX.change (Step.refl x) hd rfl rfl rfl (Yn _) (fun _ _ _=>rfl) (fun _ _ h=>.inl h) hX.flt (fun g' hg'=>(hX.gens g' hg').imp id fun ⟨e1,e2⟩=>⟨e1,.inl e2⟩) hg hO' (fun b' hb'=>.inr ⟨g,_,hob',hb'⟩) htup}
end
section
variable {P:Program} [WInv P] {ops:Array Oper} {o:Oper} {i:Nat} {s:FS} {T:TypeId} {e e' w:Operand} {E E' a1 a2 t k q n:Nat} {a3:Q3 PV} {te:TI} {g:Gen} {sh:Bool} {els:Q3 (Q3 PV)}
theorem yZ (hw:Zh ops s o=some true) (ho:o.op = .slice T e (some w) none none) (ht:tyI P T=some ⟨.slice E,a1,a2,a3⟩) (hte:tyI P E=some te) (he:ev s e = .row t g) (hob:A6 s.ob t g=some (.row E' k sh els)) (hn:toNat? (ev s w)=some n) (hnl:n<=els.length) (hk:k=te.size) :
  OpR P ops i o s ⟨.suf t g n k,[]⟩:=.any hw fun s' r hA hI=>by
 have hm:e ∈ o.op.operands:=by rw [ho];simp [Op.operands]
 have hm':w ∈ o.op.operands:=by rw [ho];simp [Op.operands]
 exact yU ho ht hte (by rw [<- hA.ev e hm];exact he) (by rw [K8 hA hm (by rw [ho];rfl) (by rw [ho];rfl) (by rw [he];simp [AB])];exact hob) (by rw [<- hA.ev w hm'];exact hn) hnl hk
theorem z6 (hw:Zh ops s o=some true) (ho:o.op = .call { callee:=.builtin .len,args:=#[e],argTypes:=#[T] }) (ht:tyI P T=some ⟨.slice E,a1,a2,a3⟩) (he:ev s e = .suf t g n k) (hob:A6 s.ob t g=some (.row E' k sh els)):OpR P ops i o s ⟨.int .i64 ((els.length-n:Nat):Int),[]⟩:=.any hw fun s' r hA hI=>by
 have hm:e ∈ o.op.operands:=by rw [ho];simp [Op.operands,Call.operands]
 exact yV ho ht (by rw [<- hA.ev e hm];exact he) (by rw [K8 hA hm (by rw [ho];rfl) (by rw [ho];rfl) (by rw [he];simp [AB])];exact hob)
theorem z7 (hw:Zh ops s o=some true) (ho:o.op = .indexAddr T e e') (ht:tyI P T=some ⟨.slice E,a1,a2,a3⟩) (hte:tyI P E=some te) (he:ev s e = .suf t g q k) (hn:toNat? (ev s e')=some n) (hob:A6 s.ob t g=some (.row E' k sh els)) (hnl:q+n<els.length) (hk:k=te.size) :
  OpR P ops i o s ⟨.elp t g (q+n) k 0,[]⟩:=.any hw fun s' r hA hI=>by
 have hm:e ∈ o.op.operands:=by rw [ho];simp [Op.operands]
 have hm':e' ∈ o.op.operands:=by rw [ho];simp [Op.operands]
 exact yW ho ht hte (by rw [<- hA.ev e hm];exact he) (by rw [<- hA.ev e' hm'];exact hn) (by rw [K8 hA hm (by rw [ho];rfl) (by rw [ho];rfl) (by rw [he];simp [AB])];exact hob) hnl hk
theorem z8 {w:Operand} (hw:Zh ops s o=some true) (ho:o.op = .slice T e none (some w) none) (ht:tyI P T=some ⟨.slice E,a1,a2,a3⟩) (hte:tyI P E=some te) (he:ev s e = .row t g) (hob:A6 s.ob t g=some (.row E' k false els)) (hn:toNat? (ev s w)=some n) (hnl:n<=els.length) :
  OpR P ops i o s ⟨.row t (s.ng,i),[(t,some ((s.ng,i),.row E' k false (els.take n)))]⟩:=.any hw fun s' r hA hI=>by
 have hm:e ∈ o.op.operands:=by rw [ho];simp [Op.operands]
 have hm':w ∈ o.op.operands:=by rw [ho];simp [Op.operands]
 rw [hA.ng]
 exact yX ho ht hte (by rw [<- hA.ev e hm];exact he) (by rw [K8 hA hm (by rw [ho];rfl) (by rw [ho];rfl) (by rw [he];simp [AB])];exact hob) (by rw [<- hA.ev w hm'];exact hn) hnl
theorem zA {zc:Q3 PV} (hw:Zh ops s o=some true) (ho:o.op = .call { callee:=.builtin .clear,args:=#[e],argTypes:=#[T] }) (ht:tyI P T=some ⟨.slice E,a1,a2,a3⟩) (hte:tyI P E=some te) (he:ev s e = .suf t g q k) (hob:A6 s.ob t g=some (.row E' k false els)) (hk:k=te.size)
  (hz:te.zero.map dn=zc) (hp:∀ p ∈ zc,p.pure=true) (hlen:te.zero.length=te.size) (hpos:0<te.size):OpR P ops i o s ⟨.tup [],[(t,some (g,.row E' k false (els.take q++List.replicate (els.length-q) zc)))]⟩:=.any hw fun s' r hA hI=>by
 have hm:e ∈ o.op.operands:=by rw [ho];simp [Op.operands,Call.operands]
 exact yY ho ht hte (by rw [<- hA.ev e hm];exact he) (by rw [K8 hA hm (by rw [ho];rfl) (by rw [ho];rfl) (by rw [he];simp [AB])];exact hob) hk hz hp hlen hpos
end
section
variable {P:Program} [WInv P] {ops:Array Oper} {draw:Bool} {i:Nat} {L:Q3 Oper} {acc:Q3 (Q3 Nat×Q3 Nat)} {K:FS->Prop} {tm:Q3 (Nat×PV)} {ob:Q3 (Nat×Q2 (Gen×VObj))} {ng:Nat}
 {d:Q2 Tmp} {ty:TypeId} {pos:String} {after:Array Edge} {gd:Q2 (Nat×Bool)} {T:TypeId} {x y:Operand} {E kk by_:Nat} {z:Q3 PV} {t:Nat} {g:Gen} {els:Q3 (Q3 PV)}
theorem zB {w:Operand} {kd:IntKind} {n:Nat} {E':Nat} {sh:Bool} [Sl P T E kk by_ z] (hw:Zh ops (mkS tm ob ng) ⟨d,.slice T x (some w) none none,ty,pos,after,gd⟩=some true) (hx:evL tm x = .row t g) (hb:A6 (Zn ob) t g=some (.row E' kk sh els)) (hy:evL tm w = .int kd (n:Int)) (hn:n<=els.length)
  (k:GoL P ops draw (i+1) L (acc ++ [(ZD (mkS tm ob ng) ⟨d,.slice T x (some w) none none,ty,pos,after,gd⟩,[])]) (mkS (A5 d (.suf t g n kk) tm) ob ng) K):GoL P ops draw i (⟨d,.slice T x (some w) none none,ty,pos,after,gd⟩::L) acc (mkS tm ob ng) K:=by{
obtain ⟨s,b,zz,te,q1,q2,q3,_,_,_,_⟩:=DL (P:=P) (T:=T) (E:=E) (k:=kk) (by_:=by_) (z:=z)
refine CH (yZ hw rfl q1 q2 (by rw [ZZ];exact hx) hb (by rw [ZZ,hy];exact K3) hn q3.symm) ?_
rw [CG]
exact k}
theorem zC {n k':Nat} {E':Nat} {sh:Bool} [Sl P T E kk by_ z] (hw:Zh ops (mkS tm ob ng) ⟨d,.call ⟨.builtin .len,#[x],#[T]⟩,ty,pos,after,gd⟩=some true) (hx:evL tm x = .suf t g n k') (hb:A6 (Zn ob) t g=some (.row E' k' sh els)) {v:Int} (hv:((els.length-n:Nat):Int)=v)
  (k:GoL P ops draw (i+1) L (acc ++ [(ZD (mkS tm ob ng) ⟨d,.call ⟨.builtin .len,#[x],#[T]⟩,ty,pos,after,gd⟩,[])]) (mkS (A5 d (.int .i64 v) tm) ob ng) K):GoL P ops draw i (⟨d,.call ⟨.builtin .len,#[x],#[T]⟩,ty,pos,after,gd⟩::L) acc (mkS tm ob ng) K:=by{
obtain ⟨s,b,zz,te,q1,q2,q3,_,_,_,_⟩:=DL (P:=P) (T:=T) (E:=E) (k:=kk) (by_:=by_) (z:=z)
subst hv
refine CH (z6 hw rfl q1 (by rw [ZZ];exact hx) hb) ?_
rw [CG]
exact k}
theorem zD {E':Nat} {sh:Bool} {kd:IntKind} {q n m:Nat} [Sl P T E kk by_ z] (hw:Zh ops (mkS tm ob ng) ⟨d,.indexAddr T x y,ty,pos,after,gd⟩=some true) (hx:evL tm x = .suf t g q kk) (hb:A6 (Zn ob) t g=some (.row E' kk sh els)) (hy:evL tm y = .int kd (n:Int)) (hm:q+n=m) (hn:m<els.length)
  (k:GoL P ops draw (i+1) L (acc ++ [(ZD (mkS tm ob ng) ⟨d,.indexAddr T x y,ty,pos,after,gd⟩,[])]) (mkS (A5 d (.elp t g m kk 0) tm) ob ng) K):GoL P ops draw i (⟨d,.indexAddr T x y,ty,pos,after,gd⟩::L) acc (mkS tm ob ng) K:=by{
obtain ⟨s,b,zz,te,q1,q2,q3,_,_,_,_⟩:=DL (P:=P) (T:=T) (E:=E) (k:=kk) (by_:=by_) (z:=z)
subst hm
refine CH (z7 hw rfl q1 q2 (by rw [ZZ];exact hx) (by rw [ZZ,hy];exact K3) hb hn q3.symm) ?_
rw [CG]
exact k}
theorem zE {w:Operand} {E':Nat} {kd:IntKind} {n:Nat} {els':Q3 (Q3 PV)} [Sl P T E kk by_ z] (hw:Zh ops (mkS tm ob ng) ⟨d,.slice T x none (some w) none,ty,pos,after,gd⟩=some true) (hx:evL tm x = .row t g) (hb:A6 (Zn ob) t g=some (.row E' kk false els)) (hy:evL tm w = .int kd (n:Int)) (hn:n<=els.length) (hs:els.take n=els')
  (k:GoL P ops draw (i+1) L (acc ++ [(ZD (mkS tm ob ng) ⟨d,.slice T x none (some w) none,ty,pos,after,gd⟩,[t])]) (mkS (A5 d (.row t (ng,i)) tm) ((t,some ((ng,i),.row E' kk false els'))::ob) ng) K):GoL P ops draw i (⟨d,.slice T x none (some w) none,ty,pos,after,gd⟩::L) acc (mkS tm ob ng) K:=by{
obtain ⟨s,b,zz,te,q1,q2,q3,_,_,_,_⟩:=DL (P:=P) (T:=T) (E:=E) (k:=kk) (by_:=by_) (z:=z)
subst hs
refine CH (z8 hw rfl q1 q2 (by rw [ZZ];exact hx) hb (by rw [ZZ,hy];exact K3) hn) ?_
rw [CG]
exact k}
theorem zF {q:Nat} {E':Nat} {zc:Q3 PV} [Sl P T E kk by_ z] (hw:Zh ops (mkS tm ob ng) ⟨d,.call ⟨.builtin .clear,#[x],#[T]⟩,ty,pos,after,gd⟩=some true) (hx:evL tm x = .suf t g q kk) (hb:A6 (Zn ob) t g=some (.row E' kk false els)) (hz:z.map dn=zc) (hp:zc.all PV.pure=true) {els':Q3 (Q3 PV)} (hs:els.take q++List.replicate (els.length-q) zc=els')
  (k:GoL P ops draw (i+1) L (acc ++ [(ZD (mkS tm ob ng) ⟨d,.call ⟨.builtin .clear,#[x],#[T]⟩,ty,pos,after,gd⟩,[t])]) (mkS (A5 d (.tup []) tm) ((t,some (g,.row E' kk false els'))::ob) ng) K):GoL P ops draw i (⟨d,.call ⟨.builtin .clear,#[x],#[T]⟩,ty,pos,after,gd⟩::L) acc (mkS tm ob ng) K:=by{
obtain ⟨s,b,zz,te,q1,q2,q3,q4,q5,q6,q7⟩:=DL (P:=P) (T:=T) (E:=E) (k:=kk) (by_:=by_) (z:=z)
subst hs
refine CH (zA hw rfl q1 q2 (by rw [ZZ];exact hx) hb q3.symm (by rw [q5];exact hz) (fun p hpp=>Yq.1 hp p hpp) (by rw [q5,q7,q3]) (by rw [q3];exact q6)) ?_
rw [CG]
exact k}
end
open Go.RowKit
structure PostS (x y:Ctx) (E k:Nat) (els':List (List PV)) (v:Value):Prop where
 step:Step x y
 gr:Gr (Dr x) x.W y.W
 fnew:∀ b o,y.F b o->x.F b o\/x.W.heap.size<=b\/Dr x b
 flt:∀ b o,y.F b o->b<y.W.heap.size
 ob:∃ g,y.ρ g=v/\ObRep y x.W.heap.size (Dr x) g (.row E k false els')
structure ContractS (P:Program) [WInv P] (f:FuncId) (args:List PV) (E k:Nat) (els els':List (List PV)):Prop where
 isGo:VL.isGo P f=true
 calls:∀ (x:Ctx) (vs:Array Value),PreR x args E k els vs->(∀ W',Gr (Dr x) x.W W'->WInv.I P W')->Calls P f vs x.W fun e W'=>∃ y v,y.W=W'/\e = .returned v/\PostS x y E k els' v
section
variable {P:Program} {r:Run} {S:Nat->Prop} {s:FS} {a:Act} {x:Ctx}
theorem RstX.changeF (h:RstX r S s a x) {S':Nat->Prop} {y:Ctx} (k:Step x y) {d:Q2 Tmp} {v:Value} {val:PV} (hd:∀ k,d=some k->k<r.N) {t:Nat} {g':Gen} {o:VObj}
  (os:y.W.os=x.W.os) (tape:y.W.tape=x.W.tape) (out:y.W.output=x.W.output) (size:x.W.heap.size<=y.W.heap.size)
  (hblock:∀ b,b<x.W.heap.size->(∀ g o,s.ob t=some (g,o)->blk (x.ρ g)≠some b)->y.W.heap[b]? = x.W.heap[b]?)
  (hF:∀ b o,y.F b o->x.F b o\/x.W.heap.size<=b\/∃ g o',s.ob t=some (g,o')/\blk (x.ρ g)=some b) (hflt:∀ b o,y.F b o->b<y.W.heap.size) (gens:∀ g,y.G g->g.1<s.ng\/(g.1=s.ng/\S' g.2)) (hG:y.G g') (hob:ObRep y r.W0.heap.size r.D g' o)
  (hfresh:∀ b,blk (y.ρ g')=some b->x.W.heap.size<=b\/∃ g o,s.ob t=some (g,o)/\blk (x.ρ g)=some b) (hval:Rep y val v) :
  RstX r S' (s.app d ⟨val,[(t,some (g',o))]⟩) (a.put d v) y:=by{
have far:∀ t' g2 o2 b,t'≠t->s.ob t'=some (g2,o2)->blk (x.ρ g2)=some b->b<x.W.heap.size/\∀ g o,s.ob t=some (g,o)->blk (x.ρ g)≠some b:=fun t' g2 o2 b ht h2 hb=>
 ⟨((h.ob t' g2 o2 h2).2.lt b hb).1,fun g o ho=>h.apart t' t g2 g o2 o b ht h2 ho hb⟩
have hobs:∀ t',(s.app d ⟨val,[(t,some (g',o))]⟩).ob t'=if t'=t then some (g',o) else s.ob t':=fun t'=>rfl
have hnew:∀ t' g2 o2 b,t'≠t->s.ob t'=some (g2,o2)->blk (x.ρ g2)=some b->blk (y.ρ g')≠some b:=fun t' g2 o2 b ht h2 hb e=>by
 obtain ⟨h3,h4⟩:=far t' g2 o2 b ht h2 hb
 rcases hfresh b e with h5 | ⟨g,o,h5,h6⟩
 omega
 exact h4 g o h5 h6
refine ⟨by rw [RZ];exact h.defers,by rw [RY];exact h.size,?_,gens,fun t'=>?_,fun t' g2 o2 h2=>?_,fun t1 t2 g1 g2 o1 o2 b hne h1 h2 hb=>?_,
 hflt,fun b o hb=>k.F b o (h.f0 b o hb),fun b o hb=>?_,fun g hg=>⟨(k.G g (h.rho g hg).1).1,(k.G g (h.rho g hg).1).2.trans (h.rho g hg).2⟩,h.inv,fun b o v hF hv=>k.W b o v (h.f0 b o hF) (h.keep b o v hF hv)⟩
refine h.gr.trans' os tape out size fun b hb hD=>hblock b (YU hb h.gr.size) fun g o ho e=>?_
rcases ((h.ob t g o ho).2.lt b e).2 with h3 | h3
omega
exact hD h3
rw [UV h.size hd]
cases d with
| none=>exact (h.tm t').step k
| some q=>
  show Rep y (if t'=q then val else s.tm t') (if t'=q then v else a.tmps.getD t' undef)
  split
  exact hval
  exact (h.tm t').step k
rw [hobs] at h2
split at h2
injection h2 with h2
injection h2 with e1 e2
subst e1 e2
exact ⟨hG,hob⟩
rename_i hne
obtain ⟨h3,h4⟩:=h.ob t' g2 o2 h2
exact ⟨(k.G g2 h3).1,h4.step h3 k fun b hb=>⟨hblock b (far t' g2 o2 b hne h2 hb).1 (far t' g2 o2 b hne h2 hb).2,fun o ho=>by
 rcases hF b o ho with h5 | h5 | ⟨g5,o5,h5,h6⟩
 exact h5
 have:=(far t' g2 o2 b hne h2 hb).1;omega
 exact absurd h6 ((far t' g2 o2 b hne h2 hb).2 g5 o5 h5)⟩⟩
rw [hobs] at h1 h2
split at h1<;>split at h2
rename_i e1 e2;exact absurd (e1.trans e2.symm) hne
rename_i e1 e2
injection h1 with h1
injection h1 with e3 e4
subst e3 e4
rw [(k.G g2 (h.ob t2 g2 o2 h2).1).2]
exact fun e=>hnew t2 g2 o2 b e2 h2 e hb
rename_i e1 e2
injection h2 with h2
injection h2 with e3 e4
subst e3 e4
rw [(k.G g1 (h.ob t1 g1 o1 h1).1).2] at hb
exact hnew t1 g1 o1 b e1 h1 hb
rw [(k.G g1 (h.ob t1 g1 o1 h1).1).2] at hb
rw [(k.G g2 (h.ob t2 g2 o2 h2).1).2]
exact h.apart t1 t2 g1 g2 o1 o2 b hne h1 h2 hb
rcases hF b o hb with h3 | h3 | ⟨g5,o5,h5,h6⟩
exact h.fnew b o h3
exact .inr (.inl (YX h.gr.size h3))
exact .inr ((h.ob t g5 o5 h5).2.lt b h6).2}
end
theorem zG {x:Ctx} {B:Nat} {D:Nat->Prop} {g:Gen} {E k:Nat} {sh:Bool} {els:Q3 (Q3 PV)} (h:ObRep x B D g (.row E k sh els)):∃ A n c,x.ρ g = .slice A n c:=by{
obtain ⟨_,_,vs,h3,_⟩:=h
rcases h3.2 with ⟨hn,_⟩ | ⟨b,cap,cur,hv,_⟩
exact ⟨_,_,_,hn⟩
exact ⟨_,_,_,hv⟩}
section
variable {P:Program} [WInv P] {r:Run} {ops:Array Oper} {o:Oper} {i:Nat} {s s':FS}
theorem zH {f:FuncId} {es:Array Operand} {ts:Array TypeId} {post:Q3 PV} {t:Nat} {g:Gen} {E k:Nat} {els els':Q3 (Q3 PV)} (ho:o.op = .call { callee:=.value (.func f),args:=es,argTypes:=ts })
  (he:es.toList.map (ev s) = .row t g::post) (hob:s.ob t=some (g,.row E k false els)) (hp:post.all PV.dryF=true) (hc:ContractS P f post E k els els') (hI:r.I=WInv.I P):OpOK P r o i s ⟨.row t (s.ng,i),[(t,some ((s.ng,i),.row E k false els'))]⟩:=by{
intro S a x Q hX hi hd
have hrep:∀ (j:Nat) (p:PV),(PV.row t g::post)[j]? = some p->Rep x p ((es.map a.eval).getD j undef):=fun j p hp=>by
 rw [<- he,Yw] at hp
 cases he:es.toList[j]? with
 | none=>rw [he] at hp;simp at hp
 | some e=>
   rw [he] at hp
   simp only [Yo,Yp] at hp
   subst hp
   have hea:es[j]? = some e:=by simpa using he
   have:(es.map a.eval).getD j undef=a.eval e:=by simp [hea]
   rw [this]
   exact AD hX e
obtain ⟨hG,hO⟩:=hX.ob t g _ hob
have hlt:=fun b hb=>hO.lt b hb
obtain ⟨q1,q2,vs2,q3,q4,q5⟩:=hO
let z:Ctx:=⟨fun g'=>g'=(0,0),x.F,x.W,fun _=>x.ρ g⟩
have hpre:PreR z post E k els (es.map a.eval):=by
 refine ⟨?_,fun j p v hj hv=>?_,⟨rfl,q1,q2,vs2,q3,fun m p v hm hv=>?_,fun b hb=>⟨.inr hb,(q5 b hb).2⟩⟩,fun g' e=>?_,hX.flt⟩
 have:=CA List.length he
 simp at this
 simp [this]
 cases j with
 | zero=>
   simp only [GI,Yp] at hj
   subst hj
   have:=hrep 0 (.row t g) rfl
   rw [Ym,hv] at this
   simp only [E5] at this
   cases this with
   | row _ _ A n c _ hvv=>exact .row _ _ A n c rfl hvv
 | succ j=>
   have hj':post[j]? = some p:=by simpa using hj
   have:=hrep (j+1) p hj
   rw [Ym,hv] at this
   exact Rep.dryF this (Yq.1 hp p (Yj hj'))
 obtain ⟨e,he,hpe⟩:=FH.1 (Yj hm)
 exact (q4 m p v hm hv).pure_mono (q2 e he p hpe) (fun _ _ h=>h) (fun _ _ _ _ h=>h)
 rw [show g'=(0,0) from e]
have hbig:r.W0.heap.size<=x.W.heap.size:=hX.gr.size
have hcalls:=hc.calls z _ hpre fun W' hW=>by
 rw [<- hI]
 exact hX.inv.1 W' (hX.gr.trans' hW.os hW.tape hW.output hW.size fun b hb hD=>hW.block b (YU hb hbig) fun e=>by
  rcases (hlt b e).2 with h | h
  omega
  exact hD h)
unfold Oper.wp
rw [MR ho hc.isGo,Oper.upon_enter]
refine hcalls.mono ?_
rintro e' W' ⟨y,v,rfl,rfl,hpost⟩
obtain ⟨g0,hv0,hob0⟩:=hpost.ob
obtain ⟨A,n,c,hsl⟩:=zG hob0
obtain ⟨w1,w2,vs3,w3,w4,w5⟩:=hob0
rw [hv0] at w3 w5 hsl
have hnew:¬ x.G (s.ng,i):=fun hg=>by
 rcases hX.gens _ hg with e | ⟨_,e⟩
 exact absurd e (JV _)
 exact hi e
let y':Ctx:=⟨fun g=>x.G g\/g=(s.ng,i),y.F,y.W,fun g=>if g=(s.ng,i) then v else x.ρ g⟩
have hρ:y'.ρ (s.ng,i)=v:=if_pos rfl
have k2:Step x y':=⟨fun g hg=>⟨.inl hg,if_neg (fun (e:g=(s.ng,i))=>hnew (by rw [<- e];exact hg))⟩,fun b o h=>hpost.step.F b o h,fun b o w hF hw=>hpost.step.W b o w hF hw⟩
refine ⟨y',rfl,hX.changeF k2 hd hpost.gr.os hpost.gr.tape hpost.gr.output hpost.gr.size (fun b hb hne=>hpost.gr.block b hb fun e=>hne g _ hob e) (fun b o h=>?_) hpost.flt
 (fun g' hg'=>?_) (.inr rfl) ⟨w1,w2,vs3,?_,fun m p v hm hv=>?_,fun b hb=>?_⟩ (fun b hb=>?_) ?_⟩
rcases hpost.fnew b o h with h1 | h1 | h1
exact .inl h1
exact .inr (.inl h1)
exact .inr (.inr ⟨g,_,hob,h1⟩)
rcases hg' with hg' | rfl
exact (hX.gens g' hg').imp id fun ⟨e1,e2⟩=>⟨e1,.inl e2⟩
exact .inr ⟨rfl,.inr rfl⟩
rw [hρ]
exact w3
obtain ⟨e,he,hpe⟩:=FH.1 (Yj hm)
exact (w4 m p v hm hv).pure_mono (w2 e he p hpe) (fun _ _ h=>h) (fun _ _ _ _ h=>h)
rw [hρ] at hb
refine ⟨?_,(w5 b hb).2⟩
rcases (w5 b hb).1 with h | h
exact .inl (YX hbig h)
exact (hlt b h).2
rw [hρ] at hb
rcases (w5 b hb).1 with h | h
exact .inl h
exact .inr ⟨g,_,hob,h⟩
rw [hsl]
exact .row _ _ A n c (show x.G (s.ng,i)\/(s.ng,i)=(s.ng,i) from .inr rfl) (hρ.trans hsl)}
theorem zI {f:FuncId} {es:Array Operand} {ts:Array TypeId} {post:Q3 PV} {t:Nat} {g:Gen} {E k:Nat} {els els':Q3 (Q3 PV)} (hw:Zh ops s o=some true) (ho:o.op = .call { callee:=.value (.func f),args:=es,argTypes:=ts })
  (he:es.toList.map (ev s) = .row t g::post) (hob:s.ob t=some (g,.row E k false els)) (hp:post.all PV.dryF=true) (hc:ContractS P f post E k els els'):OpR P ops i o s ⟨.row t (s.ng,i),[(t,some ((s.ng,i),.row E k false els'))]⟩:=.any hw fun s' r hA hI=>by
 rw [hA.ng]
 obtain ⟨e1,e2,_⟩:=OW ho hA
 refine zH ho (by rw [e1,he]) ?_ hp hc hI
 rw [<- e2 (.row t g) (by rw [he];simp) t (by simp [IE,CR,C4,AB])]
 exact hob
end
section
variable {P:Program} [WInv P] {ops:Array Oper} {draw:Bool} {i:Nat} {L:Q3 Oper} {acc:Q3 (Q3 Nat×Q3 Nat)} {K:FS->Prop} {tm:Q3 (Nat×PV)} {ob:Q3 (Nat×Q2 (Gen×VObj))} {ng:Nat}
 {d:Q2 Tmp} {ty:TypeId} {pos:String} {after:Array Edge} {gd:Q2 (Nat×Bool)}
theorem kF {f:FuncId} {es:Array Operand} {ts:Array TypeId} {post:Q3 PV} {t:Nat} {g:Gen} {E k:Nat} {els els':Q3 (Q3 PV)} (hc:ContractS P f post E k els els') (hw:Zh ops (mkS tm ob ng) ⟨d,.call ⟨.value (.func f),es,ts⟩,ty,pos,after,gd⟩=some true)
  (he:es.toList.map (evL tm) = .row t g::post) (hob:Zn ob t=some (g,.row E k false els)) (hp:post.all PV.dryF=true)
  (kk:GoL P ops draw (i+1) L (acc ++ [(ZD (mkS tm ob ng) ⟨d,.call ⟨.value (.func f),es,ts⟩,ty,pos,after,gd⟩,[t])]) (mkS (A5 d (.row t (ng,i)) tm) ((t,some ((ng,i),.row E k false els'))::ob) ng) K) :
  GoL P ops draw i (⟨d,.call ⟨.value (.func f),es,ts⟩,ty,pos,after,gd⟩::L) acc (mkS tm ob ng) K:=by
 refine CH (zI hw rfl (by rw [ZZ];exact he) hob hp hc) ?_
 rw [CG]
 exact kk
end
def cW (P:Program) (rs:Q3 ResultVar) (E k:Nat) (els':Q3 (Q3 PV)):Ex->FS->Prop | .exit _,_=>False | _,s=>∃ g,BJ P s rs=some [.row 0 g]/\s.ob 0=some (g,.row E k false els')
theorem PF {P:Program} {s:FS} {rs:Q3 ResultVar} {E k:Nat} {els':Q3 (Q3 PV)} {g:Gen} (h1:BJ P s rs=some [.row 0 g]) (h3:s.ob 0=some (g,.row E k false els')):cW P rs E k els' .ret s:=⟨g,h1,h3⟩
section
variable {P:Program} [WInv P]
theorem kG (hmix:P.follows .mixedOrders=true) {f:FuncId} {fn:Func} {c:Code} {args:Q3 PV} {E k:Nat} {els els':Q3 (Q3 PV)} {e:Ex} {s1:FS} {g0:Gen}
  (hg:isGo P f=true) (hf:P.funcs[f]? = some fn) (hb:fn.body=some c) (hn:args.length+1<=fn.ntmps) (hok:B9 fn.ntmps c=true) (hrun:RunC P c (N5 args E k els) e s1) (he:e = .normal\/e = .ret)
  (hres:BJ P s1 fn.results.toList=some [.row 0 g0]) (hob:s1.ob 0=some (g0,.row E k false els')):ContractS P f args E k els els':=by{
refine ⟨hg,fun x vs hpre hinv=>?_⟩
let r:Run:=⟨x.W,Dr x,(vs++Array.replicate (fn.ntmps-vs.size) undef).size,x.F,x.G,x.ρ,WInv.I P⟩
have hNr:r.N=fn.ntmps:=by
 have:=hpre.size
 simp [r]
 omega
have hX:RstX r (fun _=>False) (N5 args E k els) { tmps:=vs++Array.replicate (fn.ntmps-vs.size) undef,defers:=[] } x:=by
 refine ⟨rfl,rfl,Gr.refl _ _,fun g hg=>?_,fun t=>?_,fun t g o ho=>?_,fun t t' g g' o o' b hne h1 h2 hb1 hb2=>?_,hpre.flt,fun _ _ h=>h,fun _ _ h=>.inl h,fun _ h=>⟨h,rfl⟩,⟨hinv,hpre.gen⟩,fun _ _ _ _ h=>h⟩
 rw [hpre.gen g hg]
 exact .inl RO
 show Rep x ((PV.row 0 (0,0)::args).getD t (.tup [])) _
 rw [Ym,O8,IW]
 by_cases ht:t<vs.size
 have hl:t<(PV.row 0 (0,0)::args).length:=by
  rw [Yr,hpre.size]
  exact ht
 rw [if_pos ht,Yc hl,Yu ht]
 exact hpre.rep t _ _ (Yc hl) (Yu ht)
 rw [if_neg ht,YZ (by rw [Yr,hpre.size];omega)]
 have:(Array.replicate (fn.ntmps-vs.size) undef)[t-vs.size]?.getD undef=undef:=by
  rw [RD]
  split<;>rfl
 rw [this]
 exact .tup [] #[] rfl (fun i p v hp=>by simp at hp)
 obtain ⟨rfl,rfl,rfl⟩:=PD ho
 exact hpre.ob
 exact absurd ((PD h1).1.trans (PD h2).1.symm) hne
refine calls_of_wp hf hb ?_
refine (SB hmix hrun).1 r _ x _ ⟨rfl,by rw [hNr];exact hok⟩ hX fun a' y hY=>?_
obtain ⟨ws,h1,h2,h3⟩:=ON hY fn.results.toList hres
have hstep:Step x y:=⟨fun g hg=>hY.rho g hg,fun b o hb=>hY.f0 b o hb,fun b o v hb hv=>hY.keep b o v hb hv⟩
have hend:(results fn a'.tmps).run P y.W = .ok (if ws.length=1 then ws.getD 0 undef else .tuple ws.toArray) y.W:=by
 have:(fn.results.mapM (GP a')).run P y.W = .ok ws.toArray y.W:=by
  rw [O7,MI,Sem.run_bind,h1]
  rfl
 have e:results fn a'.tmps=(fn.results.mapM (GP a') >>= fun vs=>pure (if h:vs.size=1 then vs[0] else .tuple vs)):=by
  unfold results
  congr 1
 rw [e,Sem.run_bind,this]
 simp only [Result.andThen_ok,Sem.run_pure]
 congr 1
 by_cases hl:ws.length=1
 simp [hl]
 simp [hl]
have hfin:∃ v,(results fn a'.tmps).run P y.W = .ok v y.W/\(fun e W'=>∃ y v,y.W=W'/\e=Ending.returned v/\PostS x y E k els' v) (Ending.returned v) y.W:=by
 refine ⟨_,hend,y,_,rfl,rfl,hstep,hY.gr,hY.fnew,hY.flt,g0,?_,(hY.ob 0 _ _ hob).2⟩
 rw [if_pos (by simpa using h2)]
 have h5:=h3 0 (.row 0 g0) rfl
 generalize ws.getD 0 undef=u at h5 ⊢
 cases h5 with
 | row _ _ A n c _ hvv=>exact hvv
rcases he with rfl | rfl
exact ⟨hY.defers,hfin⟩
exact ⟨hY.defers,hfin⟩}
theorem zJ (hmix:P.follows .mixedOrders=true) {f:FuncId} {fn:Func} {c:Code} {args:Q3 PV} {E k:Nat} {els els':Q3 (Q3 PV)} (hf:P.funcs[f]? = some fn) (hg:isGo P f=true) (hb:fn.body=some c) (hok:(decide (args.length+1<=fn.ntmps)&&B9 fn.ntmps c)=true)
  (h:PWs P [c] (cW P fn.results.toList E k els') (mkS (CJ 0 (.row 0 (0,0)::args)) [(0,some ((0,0),.row E k false els))] 1)):ContractS P f args E k els els':=by{
simp only [YH,YT] at hok
obtain ⟨e,s',h1,h2⟩:=J8 h
have hsh:Shift (N5 args E k els) (mkS (CJ 0 (.row 0 (0,0)::args)) [(0,some ((0,0),.row E k false els))] 1):=OQ (fun t=>by
 rcases MW (PV.row 0 (0,0)::args) 0 t with h | ⟨_,h⟩
 exact .inl h
 exact .inr h) (fun t=>.inr rfl) (Yn _)
cases e with
| exit id=>exact h2.elim
| normal=>
  obtain ⟨g0,q1,q3⟩:=h2
  exact kG hmix hg hf hb hok.1 hok.2 (.shift hsh h1) (.inl rfl) q1 q3
| ret=>
  obtain ⟨g0,q1,q3⟩:=h2
  exact kG hmix hg hf hb hok.1 hok.2 (.shift hsh h1) (.inr rfl) q1 q3}
end
section
variable {P:Program} [WInv P] {α β γ:Type} {ops:Array Oper} {draw:Bool} {i:Nat} {L:Q3 Oper} {acc:Q3 (Q3 Nat×Q3 Nat)} {K:FS->Prop} {tm:Q3 (Nat×PV)} {ob:Q3 (Nat×Q2 (Gen×VObj))} {ng:Nat}
 {d:Q2 Tmp} {ty T:TypeId} {pos:String} {after:Array Edge} {gd:Q2 (Nat×Bool)} {x y:Operand} {r:γ} {q:β->Prop}
theorem aC {F:Q2 β} {G:β->Q2 γ} {R:β->PV} {f:FuncId} {es:Array Operand} {ts:Array TypeId} {args:Q3 PV} {us:Q3 (Nat×Q2 (Gen×VObj))} (hF:F.bind G=some r) (hc:∀ v,F=some v->Zg P f args (R v)) (k:∀ v,G v=some r->q v)
  (hw:Zh ops (mkS tm ob ng) ⟨d,.call ⟨.value (.func f),es,ts⟩,ty,pos,after,gd⟩=some true:=by exact rfl) (ha:AV (Zn ob) (es.toList.map (evL tm))=some (args,us):=by exact rfl)
  (h:∀ v,q v->GoL P ops draw (i+1) L (acc ++ [(ZD (mkS tm ob ng) ⟨d,.call ⟨.value (.func f),es,ts⟩,ty,pos,after,gd⟩,us.map (·.1))]) (mkS (A5 d (R v) tm) (us.reverse++ob) ng) K:=by
 (intro v k)
 (refine Zj ?_)
 (exact k)):GoL P ops draw i (⟨d,.call ⟨.value (.func f),es,ts⟩,ty,pos,after,gd⟩::L) acc (mkS tm ob ng) K:=by
 obtain ⟨v,hv,hG⟩:=bnd hF
 exact DW (hc v hv) hw ha (h v (k v hG))
theorem aL {F:Q2 β} {G:β->Q2 γ} {R:β->PV} {f:FuncId} {es:Array Operand} {ts:Array TypeId} {args:Q3 PV} (hF:F.bind G=some r) (hc:∀ v,F=some v->Zg P f args (R v)) (k:∀ v,G v=some r->q v)
  (hw:Zh ops (mkS tm ob ng) ⟨d,.call ⟨.value (.func f),es,ts⟩,ty,pos,after,gd⟩=some true:=by exact rfl) (ha:BH (frz (Zn ob)) (es.toList.map (evL tm))=some args:=by exact rfl) (hp:∀ v,(R v).dry=true:=by exact fun _=>rfl)
  (h:∀ v,q v->GoL P ops draw (i+1) L (acc ++ [(ZD (mkS tm ob ng) ⟨d,.call ⟨.value (.func f),es,ts⟩,ty,pos,after,gd⟩,[])]) (mkS (A5 d (R v) tm) ob ng) K:=by
 (intro v k)
 (refine Zj ?_)
 (exact k)):GoL P ops draw i (⟨d,.call ⟨.value (.func f),es,ts⟩,ty,pos,after,gd⟩::L) acc (mkS tm ob ng) K:=by
 obtain ⟨v,hv,hG⟩:=bnd hF
 exact N0 (hc v hv) hw ha (hp v) (h v (k v hG))
theorem aN {dd:Nat} {F:Q2 β} {G:β->Q2 γ} {O:β->VObj} {f:FuncId} {es:Array Operand} {ts:Array TypeId} {args:Q3 PV} {us:Q3 (Nat×Q2 (Gen×VObj))} (hF:F.bind G=some r) (hc:∀ v,F=some v->ContractN P f args (O v)) (k:∀ v,G v=some r->q v)
  (hw:Zh ops (mkS tm ob ng) ⟨some dd,.call ⟨.value (.func f),es,ts⟩,ty,pos,after,gd⟩=some true:=by exact rfl) (ha:AV (Zn ob) (es.toList.map (evL tm))=some (args,us):=by exact rfl)
  (h:∀ v,q v->GoL P ops draw (i+1) L (acc ++ [(ZD (mkS tm ob ng) ⟨some dd,.call ⟨.value (.func f),es,ts⟩,ty,pos,after,gd⟩,(us ++ [(dd,some ((ng,i),O v))]).map (·.1))])
   (mkS ((dd,SJ (O v) dd (ng,i))::tm) ((us ++ [(dd,some ((ng,i),O v))]).reverse++ob) ng) K:=by
 (intro v k)
 (refine Zj ?_)
 (exact k)):GoL P ops draw i (⟨some dd,.call ⟨.value (.func f),es,ts⟩,ty,pos,after,gd⟩::L) acc (mkS tm ob ng) K:=by
 obtain ⟨v,hv,hG⟩:=bnd hF
 exact uJ (hc v hv) hw ha (h v (k v hG))
theorem aO {F:Q2 β} {G:β->Q2 γ} {R:β->PV} {O:β->Q3 PV} {f:FuncId} {es:Array Operand} {ts:Array TypeId} {post post':Q3 PV} {t:Nat} {g:Gen} {cs qs:Q3 PV} {us2 us3:Q3 (Nat×Q2 (Gen×VObj))} (hF:F.bind G=some r)
  (hc:∀ v,F=some v->Contract P f (.ptr 0 (0,0) 0::post') (some (0,qs)) (R v) (O v)) (k:∀ v,G v=some r->q v) (hw:Zh ops (mkS tm ob ng) ⟨d,.call ⟨.value (.func f),es,ts⟩,ty,pos,after,gd⟩=some true:=by exact rfl)
  (he:es.toList.map (evL tm) = .ptr t g 0::post:=by exact rfl) (hob:A6 (Zn ob) t g=some (.box cs):=by exact rfl) (h2:AM (Zn ob) cs=some (qs,us2):=by exact rfl) (h3:AV (Zn ob) post=some (post',us3):=by exact rfl)
  (h:∀ v,q v->GoL P ops draw (i+1) L (acc ++ [(ZD (mkS tm ob ng) ⟨d,.call ⟨.value (.func f),es,ts⟩,ty,pos,after,gd⟩,(us2++us3 ++ [(t,some (g,VObj.box (O v)))]).map (·.1))])
   (mkS (A5 d (R v) tm) ((us2++us3 ++ [(t,some (g,VObj.box (O v)))]).reverse++ob) ng) K:=by
 (intro v k)
 (refine Zj ?_)
 (exact k)):GoL P ops draw i (⟨d,.call ⟨.value (.func f),es,ts⟩,ty,pos,after,gd⟩::L) acc (mkS tm ob ng) K:=by
 obtain ⟨v,hv,hG⟩:=bnd hF
 exact uC (hc v hv) hw he hob h2 h3 (h v (k v hG))
theorem aI (f:β->Q3 PV) {M:Q3 β} {n:Int} {G:β->Q2 γ} {E kk by_:Nat} {z:Q3 PV} [Sl P T E kk by_ z] {kd:IntKind} (hF:(atI M n).bind G=some r) (k:∀ v,G v=some r->q v)
  (hw:Zh ops (mkS tm ob ng) ⟨d,.indexAddr T x y,ty,pos,after,gd⟩=some true:=by exact rfl) (hx:evL tm x = .sl (M.map f):=by exact rfl) (hy:evL tm y = .int kd n:=by exact rfl) (hl:∀ e,(f e).length=kk:=by exact fun _=>rfl)
  (h:∀ e,q e->GoL P ops draw (i+1) L (acc ++ [(ZD (mkS tm ob ng) ⟨d,.indexAddr T x y,ty,pos,after,gd⟩,[])]) (mkS (A5 d (.cel (f e)) tm) ob ng) K:=by
 (intro v k)
 (refine Zj ?_)
 (exact k)):GoL P ops draw i (⟨d,.indexAddr T x y,ty,pos,after,gd⟩::L) acc (mkS tm ob ng) K:=by
 obtain ⟨v,hv,hG⟩:=bnd hF
 exact vI hw hv hx hy (hl v) (h v (k v hG))
theorem aS {a:Q1} {n:Int} {G:Int->Q2 γ} {q:Int->Prop} {kd:IntKind} (hF:(atS a n).bind G=some r) (k:∀ v,G v=some r->q v) [hT:StrT P T]
  (hw:Zh ops (mkS tm ob ng) ⟨d,.index T x y,ty,pos,after,gd⟩=some true:=by exact rfl) (hx:evL tm x = .str a:=by exact rfl) (hy:evL tm y = .int kd n:=by exact rfl)
  (h:∀ c,q c->GoL P ops draw (i+1) L (acc ++ [(ZD (mkS tm ob ng) ⟨d,.index T x y,ty,pos,after,gd⟩,[])]) (mkS (A5 d (.int .u8 c) tm) ob ng) K:=by
 (intro v k)
 (refine Zj ?_)
 (exact k)):GoL P ops draw i (⟨d,.index T x y,ty,pos,after,gd⟩::L) acc (mkS tm ob ng) K:=by
 obtain ⟨v,hv,hG⟩:=bnd hF
 exact vK StrT.eq hw hv hx hy (h v (k v hG))
theorem sS {a:Q1} {l m:Int} {G:Q1->Q2 γ} {q:Q1->Prop} {lo hi:Q2 Operand} (hF:(AH a l m).bind G=some r) (k:∀ v,G v=some r->q v) [hT:StrT P T]
  (hw:Zh ops (mkS tm ob ng) ⟨d,.slice T x lo hi none,ty,pos,after,gd⟩=some true:=by exact rfl) (hx:evL tm x = .str a:=by exact rfl) (hlo:loI tm lo=some l:=by exact rfl) (hhi:hiI tm a.size hi=some m:=by exact rfl)
  (h:∀ b,q b->GoL P ops draw (i+1) L (acc ++ [(ZD (mkS tm ob ng) ⟨d,.slice T x lo hi none,ty,pos,after,gd⟩,[])]) (mkS (A5 d (.str b) tm) ob ng) K:=by
 (intro v k)
 (refine Zj ?_)
 (exact k)):GoL P ops draw i (⟨d,.slice T x lo hi none,ty,pos,after,gd⟩::L) acc (mkS tm ob ng) K:=by
 obtain ⟨v,hv,hG⟩:=bnd hF
 exact iR StrT.eq hw hv hx hlo hhi (h v (k v hG))
theorem sT {a b:Q1} {G:Q1->Q2 γ} {q:Q1->Prop} {T':TypeId} (hF:(BV a b).bind G=some r) (k:∀ v,G v=some r->q v)
  (hw:Zh ops (mkS tm ob ng) ⟨d,.binOp .add T x y T',ty,pos,after,gd⟩=some true:=by exact rfl) (hx:evL tm x = .str a:=by exact rfl) (hy:evL tm y = .str b:=by exact rfl)
  (h:∀ c,q c->GoL P ops draw (i+1) L (acc ++ [(ZD (mkS tm ob ng) ⟨d,.binOp .add T x y T',ty,pos,after,gd⟩,[])]) (mkS (A5 d (.str c) tm) ob ng) K:=by
 (intro v k)
 (refine Zj ?_)
 (exact k)):GoL P ops draw i (⟨d,.binOp .add T x y T',ty,pos,after,gd⟩::L) acc (mkS tm ob ng) K:=by
 obtain ⟨v,hv,hG⟩:=bnd hF
 exact VG hw hv hx hy (h v (k v hG))
theorem pR (f:β->Q3 PV) {dd:Nat} {E kk by_:Nat} {z:Q3 PV} [Sl P T E kk by_ z] {M0 M:Q3 β} {G:Q3 β->Q2 γ} {q:Q3 β->Prop} {t:Nat} {g:Gen} {sh:Bool} {new:Q3 (Q3 PV)} (hF:(A8 by_ M0 M).bind G=some r) (k:∀ v,G v=some r->q v)
  (hw:Zh ops (mkS tm ob ng) ⟨some dd,.call ⟨.builtin .append,#[x,y],#[T,T]⟩,ty,pos,after,gd⟩=some true:=by exact rfl) (hf:∀ x,(f x).length=kk:=by exact fun _=>rfl) (hx:evL tm x = .row t g:=by exact rfl) (ho:A6 (Zn ob) t g=some (.row E kk sh (M0.map f)):=by exact rfl) (hy:BT (Zn ob) (evL tm y)=some new:=by exact rfl) (hm:new=M.map f:=by exact rfl)
  (h:∀ R,q R->GoL P ops draw (i+1) L (acc ++ [(ZD (mkS tm ob ng) ⟨some dd,.call ⟨.builtin .append,#[x,y],#[T,T]⟩,ty,pos,after,gd⟩,[t])]) (mkS ((dd,.row t (ng,i))::tm) ((t,some ((ng,i),.row E kk sh (R.map f)))::ob) ng) K:=by
 (intro v k)
 (refine Zj ?_)
 (exact k)):GoL P ops draw i (⟨some dd,.call ⟨.builtin .append,#[x,y],#[T,T]⟩,ty,pos,after,gd⟩::L) acc (mkS tm ob ng) K:=by
 obtain ⟨v,hv,hG⟩:=bnd hF
 exact vL hw hv hf hx ho hy hm (h v (k v hG))
theorem sM (f:β->Q3 PV) {E kk by_:Nat} {z:Q3 PV} [Sl P T E kk by_ z] {lo hi:Q2 Operand} {M:Q3 β} {l m:Int} {G:Q3 β->Q2 γ} {q:Q3 β->Prop} {us:Q3 (Nat×Q2 (Gen×VObj))} (hF:(CL M l m).bind G=some r) (k:∀ v,G v=some r->q v)
  (hw:Zh ops (mkS tm ob ng) ⟨d,.slice T x lo hi none,ty,pos,after,gd⟩=some true:=by exact rfl) (hf:∀ x,(f x).length=kk:=by exact fun _=>rfl) (hx:BT (Zn ob) (evL tm x)=some (M.map f):=by exact rfl) (hlo:loI tm lo=some l:=by exact rfl) (hhi:hiI tm M.length hi=some m:=by exact rfl) (hus:J5 (Zn ob) (evL tm x)=us:=by exact rfl)
  (h:∀ R,q R->GoL P ops draw (i+1) L (acc ++ [(ZD (mkS tm ob ng) ⟨d,.slice T x lo hi none,ty,pos,after,gd⟩,us.map (·.1))]) (mkS (A5 d (.sl (R.map f)) tm) (us.reverse++ob) ng) K:=by
 (intro v k)
 (refine Zj ?_)
 (exact k)):GoL P ops draw i (⟨d,.slice T x lo hi none,ty,pos,after,gd⟩::L) acc (mkS tm ob ng) K:=by
 obtain ⟨v,hv,hG⟩:=bnd hF
 exact vJ hw hv hf hx hlo hhi hus (h v (k v hG))
theorem lM (f:β->Q3 PV) (M:Q3 β) {E kk by_:Nat} {z:Q3 PV} [Sl P T E kk by_ z] {q:Prop} (k:q)
  (hw:Zh ops (mkS tm ob ng) ⟨d,.call ⟨.builtin .len,#[x],#[T]⟩,ty,pos,after,gd⟩=some true:=by exact rfl) (hx:BT (Zn ob) (evL tm x)=some (M.map f):=by exact rfl)
  (h:q->GoL P ops draw (i+1) L (acc ++ [(ZD (mkS tm ob ng) ⟨d,.call ⟨.builtin .len,#[x],#[T]⟩,ty,pos,after,gd⟩,[])]) (mkS (A5 d (.int .i64 (M.length:Int)) tm) ob ng) K:=by
 (intro k)
 (refine Zj ?_)
 (exact k)):GoL P ops draw i (⟨d,.call ⟨.builtin .len,#[x],#[T]⟩,ty,pos,after,gd⟩::L) acc (mkS tm ob ng) K:=vH hw hx (h k)
theorem bM (f:β->Q3 PV) (M:Q3 β) {dd:Nat} {E kk by_:Nat} {z:Q3 PV} [Sl P T E kk by_ z] {n:Nat} {parts:Array (Nat×Operand)} {q:Prop} {cs qs:Q3 PV} {us:Q3 (Nat×Q2 (Gen×VObj))} (k:q)
  (hw:Zh ops (mkS tm ob ng) ⟨some dd,.buildSlice T n parts,ty,pos,after,gd⟩=some true:=by exact rfl) (hf:CQ (fun i=>some (i * kk,kk)) (List.replicate n z).flatten (evs tm parts.toList)=some cs:=by exact rfl) (hr:AM (Zn ob) cs=some (qs,us):=by exact rfl) (hl:qs.length=n * kk:=by exact rfl) (hm:n * kk<=16777216:=by exact (Yk rfl)) (hc:chunks kk n qs=M.map f:=by exact rfl)
  (h:q->GoL P ops draw (i+1) L (acc ++ [(ZD (mkS tm ob ng) ⟨some dd,.buildSlice T n parts,ty,pos,after,gd⟩,us.map (·.1) ++ [dd])]) (mkS ((dd,.row dd (ng,i))::tm) ((dd,some ((ng,i),.row E kk false (M.map f)))::(us.reverse++ob)) ng) K:=by
 (intro k)
 (refine Zj ?_)
 (exact k)):GoL P ops draw i (⟨some dd,.buildSlice T n parts,ty,pos,after,gd⟩::L) acc (mkS tm ob ng) K:=CT M hw hf hr hl hm hc (h k)
end
open Go.RowKit
def HT {α:Type} (l:Q3 α) (q:Int):Q2 Unit:=if 0<=q/\q<=(l.length:Int) then some () else none
def atQ {α:Type} (l:Q3 α) (q i:Int):Q2 α:=if 0<=q/\0<=i then atI l (q+i) else none
def PG {α:Type} (l:Q3 α) (q:Int):Int:=((l.length-q.toNat:Nat):Int)
def N7 {α:Type} (l:Q3 α) (q:Int) (z:α):Q3 α:=l.take q.toNat++List.replicate (l.length-q.toNat) z
theorem N8 {α:Type} {l:Q3 α} {q i:Int} {e:α} (h:atQ l q i=some e):atI l (q+i)=some e:=by{
unfold atQ at h
split at h
exact h
cases h}
section
variable {P:Program} [WInv P] {ops:Array Oper} {draw:Bool} {i:Nat} {L:Q3 Oper} {acc:Q3 (Q3 Nat×Q3 Nat)} {K:FS->Prop} {tm:Q3 (Nat×PV)} {ob:Q3 (Nat×Q2 (Gen×VObj))} {ng:Nat}
 {d:Q2 Tmp} {ty:TypeId} {pos:String} {after:Array Edge} {gd:Q2 (Nat×Bool)} {T:TypeId} {x y:Operand} {E kk by_:Nat} {z:Q3 PV} {t:Nat} {g:Gen} {α:Type} {f:α->Q3 PV}
theorem W9 {w:Operand} {kd:IntKind} {q:Int} {E':Nat} {sh:Bool} {u:Unit} {M:Q3 α} [Sl P T E kk by_ z] (hw:Zh ops (mkS tm ob ng) ⟨d,.slice T x (some w) none none,ty,pos,after,gd⟩=some true) (hs:HT M q=some u) (hx:evL tm x = .row t g) (hb:A6 (Zn ob) t g=some (.row E' kk sh (M.map f))) (hy:evL tm w = .int kd q)
  (k:GoL P ops draw (i+1) L (acc ++ [(ZD (mkS tm ob ng) ⟨d,.slice T x (some w) none none,ty,pos,after,gd⟩,[])]) (mkS (A5 d (.suf t g q.toNat kk) tm) ob ng) K):GoL P ops draw i (⟨d,.slice T x (some w) none none,ty,pos,after,gd⟩::L) acc (mkS tm ob ng) K:=by{
unfold HT at hs
split at hs
rename_i hc
exact zB (n:=q.toNat) hw hx hb (by rw [hy,RI hc.1]) (by rw [Yv];omega) k
cases hs}
theorem kH {q:Int} {k' E':Nat} {sh:Bool} {M:Q3 α} [Sl P T E kk by_ z] (hw:Zh ops (mkS tm ob ng) ⟨d,.call ⟨.builtin .len,#[x],#[T]⟩,ty,pos,after,gd⟩=some true) (hx:evL tm x = .suf t g q.toNat k') (hb:A6 (Zn ob) t g=some (.row E' k' sh (M.map f)))
  (k:GoL P ops draw (i+1) L (acc ++ [(ZD (mkS tm ob ng) ⟨d,.call ⟨.builtin .len,#[x],#[T]⟩,ty,pos,after,gd⟩,[])]) (mkS (A5 d (.int .i64 (PG M q)) tm) ob ng) K):GoL P ops draw i (⟨d,.call ⟨.builtin .len,#[x],#[T]⟩,ty,pos,after,gd⟩::L) acc (mkS tm ob ng) K:=
 zC hw hx hb (by rw [Yv];rfl) k
theorem PH {E':Nat} {sh:Bool} {kd:IntKind} {q n:Int} {M:Q3 α} {e:α} [Sl P T E kk by_ z] (hw:Zh ops (mkS tm ob ng) ⟨d,.indexAddr T x y,ty,pos,after,gd⟩=some true) (he:atQ M q n=some e) (hx:evL tm x = .suf t g q.toNat kk) (hb:A6 (Zn ob) t g=some (.row E' kk sh (M.map f))) (hy:evL tm y = .int kd n)
  (k:GoL P ops draw (i+1) L (acc ++ [(ZD (mkS tm ob ng) ⟨d,.indexAddr T x y,ty,pos,after,gd⟩,[])]) (mkS (A5 d (.elp t g (q+n).toNat kk 0) tm) ob ng) K):GoL P ops draw i (⟨d,.indexAddr T x y,ty,pos,after,gd⟩::L) acc (mkS tm ob ng) K:=by{
have h2:=(P2 (N8 he)).2
unfold atQ at he
split at he
rename_i hc
exact zD (n:=n.toNat) hw hx hb (by rw [hy,RI hc.2]) (by omega) (by rw [Yv];exact (Yd.1 h2).1) k
cases he}
theorem kI {q:Int} {E':Nat} {zr:α} {M:Q3 α} [Sl P T E kk by_ z] (hw:Zh ops (mkS tm ob ng) ⟨d,.call ⟨.builtin .clear,#[x],#[T]⟩,ty,pos,after,gd⟩=some true) (hx:evL tm x = .suf t g q.toNat kk) (hb:A6 (Zn ob) t g=some (.row E' kk false (M.map f))) (hz:z.map dn=f zr) (hp:(f zr).all PV.pure=true)
  (k:GoL P ops draw (i+1) L (acc ++ [(ZD (mkS tm ob ng) ⟨d,.call ⟨.builtin .clear,#[x],#[T]⟩,ty,pos,after,gd⟩,[t])]) (mkS (A5 d (.tup []) tm) ((t,some (g,.row E' kk false ((N7 M q zr).map f)))::ob) ng) K):GoL P ops draw i (⟨d,.call ⟨.builtin .clear,#[x],#[T]⟩,ty,pos,after,gd⟩::L) acc (mkS tm ob ng) K:=
 zF hw hx hb hz hp (by unfold N7;rw [YR,List.map_take,List.map_replicate,Yv]) k
theorem kJ {w:Operand} {E':Nat} {kd:IntKind} {h:Int} {M R:Q3 α} [Sl P T E kk by_ z] (hw:Zh ops (mkS tm ob ng) ⟨d,.slice T x none (some w) none,ty,pos,after,gd⟩=some true) (hs:CL M 0 h=some R) (hx:evL tm x = .row t g) (hb:A6 (Zn ob) t g=some (.row E' kk false (M.map f))) (hy:evL tm w = .int kd h)
  (k:GoL P ops draw (i+1) L (acc ++ [(ZD (mkS tm ob ng) ⟨d,.slice T x none (some w) none,ty,pos,after,gd⟩,[t])]) (mkS (A5 d (.row t (ng,i)) tm) ((t,some ((ng,i),.row E' kk false (R.map f)))::ob) ng) K):GoL P ops draw i (⟨d,.slice T x none (some w) none,ty,pos,after,gd⟩::L) acc (mkS tm ob ng) K:=by{
obtain ⟨h0,h1,h2,rfl⟩:=iO hs
refine zE (n:=h.toNat) hw hx hb (by rw [hy,RI h1]) (by rw [Yv];omega) (?_:_=_) k
rw [<- List.map_take]
rfl}
end
theorem kK {P:Program} [WInv P] {β:Type} {F:Q2 β} {O:β->Q3 (Q3 PV)} {f:FuncId} {fn:Func} {c:Code} {args:Q3 PV} {E k:Nat} {els:Q3 (Q3 PV)} {r:β} (hF:F=some r) (hmix:P.follows .mixedOrders=true) (hf:P.funcs[f]? = some fn) (hg:isGo P f=true) (hb:fn.body=some c) (hok:(decide (args.length+1<=fn.ntmps)&&B9 fn.ntmps c)=true)
  (h:∀ r,F=some r->PWs P [c] (cW P fn.results.toList E k (O r)) (mkS (CJ 0 (.row 0 (0,0)::args)) [(0,some ((0,0),.row E k false els))] 1)):ContractS P f args E k els (O r):=zJ hmix hf hg hb hok (h r hF)
end VL
end Go.Proofs.YtmgfammllddkhaaGreatDoor
