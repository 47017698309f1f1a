/- Ancestors, the reference's and the program's. | The library's functions at slices of strings, in the words of SlR. | A scope covers a level; the levels of a title. | Contracts in values, out of those in worlds. | Functions whose contracts are proved by hand, written as the others are. | A row of the call's own behind the library's turning of it. No program is named. | The levels of a title, the reference's. | title.Ancestors and slices.Reverse, as contracts in values. | access: levels, May. -/
import Derived.Test.YtjoneoobolnnbaaGreatDoorCF09
import Derived.Test.YtjoneoobolnnbaaGreatDoorCF02
import Derived.Test.YtjoneoobolnnbaaGreatDoorCF03
import Derived.Test.YtjoneoobolnnbaaGreatDoorCF08
import Derived.Test.YtjoneoobolnnbaaGreatDoorCF01
import Derived.Shelf.GgSortFunc.RowK
import Derived.Test.YtjoneoobolnnbaaGreatDoorCF06
namespace Go.Proofs.YtjoneoobolnnbaaGreatDoor
open Go.RowKit
def ZkV (x:Title):List Value:=[.int .i64 x.space,.string x.name]
def ZcC (t:Title) (q:Nat):List Title:=((List.range q).filter (fun i=>t.name.data.toList[i]? == some 47)).map (fun i=>⟨t.space,t.name.extract 0 i⟩)
def ZkW (t:Title):List Title:=if t.valid then ZcC t t.name.size else []
theorem Zn0 {t:Title} {q:Nat} (hq:q<t.name.size) (h:(t.name[q].toNat:Int)=47):ZcC t (q+1)=ZcC t q ++ [⟨t.space,t.name.extract 0 q⟩]:=by
 have h2:t.name.data.toList[q]? = some t.name[q]:=List.getElem?_eq_getElem (by rw [Array.length_toList];exact hq)
 have h3:t.name[q]=47:=UInt8.toNat_inj.1 (by show _=47;omega)
 have h4:(fun i=>t.name.data.toList[i]? == some 47) q=true:=by show (t.name.data.toList[q]? == some 47)=true;rw [h2,h3];rfl
 unfold ZcC
 rw [List.range_succ,List.filter_append,List.map_append,List.filter_cons_of_pos (p:=fun i=>t.name.data.toList[i]? == some 47) h4]
 rfl
theorem ZpK {t:Title} {q:Nat} (hq:q<t.name.size) (h:¬ (t.name[q].toNat:Int)=47):ZcC t (q+1)=ZcC t q:=by
 have h2:t.name.data.toList[q]? = some t.name[q]:=List.getElem?_eq_getElem (by rw [Array.length_toList];exact hq)
 have h3:¬ t.name[q]=47:=fun e=>h (by rw [e];rfl)
 have h4:¬ (fun i=>t.name.data.toList[i]? == some 47) q=true:=by show ¬ (t.name.data.toList[q]? == some 47)=true;rw [h2];simpa using h3
 unfold ZcC
 rw [List.range_succ,List.filter_append,List.map_append,List.filter_cons_of_neg (p:=fun i=>t.name.data.toList[i]? == some 47) h4]
 simp
theorem ZjT (t:Title) (q:Nat):(ZcC t q).length≤q:=by
 unfold ZcC
 rw [List.length_map]
 exact Nat.le_trans (List.length_filter_le _ _) (by simp)
theorem Ztb:Zj9 Tryz.prog 40 29 (Enc.k Title) 24:=ZtJ Tryz.underlying40 (by kernel_rfl)
set_option maxRecDepth 100000 in
set_option maxHeartbeats 2000000 in
theorem ZlQ (t:Title) (w:World) (hG:Glob w):Calls Tryz.prog 162 #[.agg #[.int .i64 t.space,.string t.name]] w fun e w'=>∃ v,e = .returned v∧OwnL w' w.heap.size 29 v (ZkW t)∧Below w.heap.size w w':=by
 have HV:Hid (t.valid=true→t.name.size≤100):=Lib.hid fun h=>by
  simp only [Title.valid,Bool.and_eq_true,decide_eq_true_eq] at h
  omega
 have HA:Hid (ZkW t=if t.valid then ZcC t t.name.size else []):=Lib.hid rfl
 obtain ⟨sp,s⟩:=t
 go_enter Tryz.func162,Tryz.ntmps162
 go_wp2_with fail
 generalize hw1:w.alloc _=w1
 have c0_0:w1.cell? ⟨w.heap.size,0,none⟩=some (.int .i64 sp):=by subst hw1;go_simp
 have c0_1:w1.cell? ⟨w.heap.size,1,none⟩=some (.string s):=by subst hw1;go_simp
 have HB:Hid (Below w.heap.size w w1):=by subst hw1;exact Below.al (Below.refl _ _) _
 clear hw1
 have HF:Hid (∀ W,Below w1.heap.size w1 W→W.cell? ⟨w.heap.size,0,none⟩=some (.int .i64 sp)∧W.cell? ⟨w.heap.size,1,none⟩=some (.string s)):=fun W h=>⟨re1 h (Zbo c0_0) c0_0,re1 h (Zbo c0_1) c0_1⟩
 refine (ZmQ ⟨sp,s⟩ _ (hG.below HB.out)).mono ?_
 rintro e w2 ⟨rfl,hb2⟩
 try clear c0_0 c0_1
 obtain ⟨c0_0,c0_1⟩:=HF.out _ (hb2)
 have HB2:=Lib.hid (Below.tr HB.out hb2)
 clear hb2 HB HF
 by_cases hv:Title.valid ⟨sp,s⟩=true
 case neg=>
  have hv:Title.valid ⟨sp,s⟩=false:=by simpa using hv
  rw [hv] at HA ⊢
  clear hv HV
  go_wp2
  go_ret
  exact ⟨_,rfl,by rw [HA.out];exact OwnL.nil _ _ _,HB2.out⟩
 have hs:=HV.out hv
 rw [hv] at HA ⊢
 clear hv HV
 go_wp2_with fail
 go_loopw [3,4] (fun l i wr=>∃ q:Nat,q≤s.size∧i = .int .i64 q∧Below w2.heap.size w2 wr∧OwnL wr w2.heap.size 29 l (ZcC ⟨sp,s⟩ q)) (fun _ i _=>s.size - (intOf i).toNat)
 case atStart=>exact ⟨0,by omega,rfl,Below.refl _ _,OwnL.nil _ _ _⟩
 case round=>
  obtain ⟨q,hq,rfl,hbw,hown⟩:=hrel
  have HQ:=Lib.hid hbw
  have HW:=Lib.hid hown
  have e0:=re1 HQ.out (Zbo c0_0) c0_0
  have e1:=re1 HQ.out (Zbo c0_1) c0_1
  clear hbw hown
  by_cases hlt:q<s.size
  ·have b1:(0:Int)≤q:=by omega
   have b2:(q:Int)<(s.size:Int):=by omega
   by_cases h47:(s[q].toNat:Int)=47
   ·have hl:=ZjT ⟨sp,s⟩ q
    have HL:=Lib.hid (Zn0 (t:=⟨sp,s⟩) hlt h47)
    have B3:Hid ((ZcC ⟨sp,s⟩ q).length+1≤maxLen):=Lib.hid (by unfold maxLen;omega)
    have B4:Hid (((ZcC ⟨sp,s⟩ q).length+1) * 24≤140737488355328):=Lib.hid (by omega)
    have hg:w2.heap.size≤wr.heap.size:=HQ.out.size
    clear hl
    generalize ZcC ⟨sp,s⟩ q=L at *
    go_upto_region 8 with fail
    go_region_law (refine Zlb rfl _ _ 40 rfl Ztb (by decide) (B:=w2.heap.size) (v:=u3) (xs:=L) rfl (by first | exact HW.out.drew.al _ | exact (HW.out.al _).drew) (S:=fun _=>True) (ys:=[(⟨sp,s.extract 0 q⟩:Title)]) rfl (by first | exact SlR.made ZkV (fun _ _ _=>rfl) _ _ (xs:=[(⟨sp,s.extract 0 q⟩:Title)]) rfl rfl (show 1≤9223372036854775807 by omega) rfl | exact SlR.drew (SlR.made ZkV (fun _ _ _=>rfl) _ _ (xs:=[(⟨sp,s.extract 0 q⟩:Title)]) rfl rfl (show 1≤9223372036854775807 by omega) rfl)) (fun _ _ _ h=>h) B3.out B4.out (by simp;omega) ?_;intro v' w' hown hg2 hv')
    all_goals
     go_wp2
     refine ⟨⟨q+1,by omega,by go_num,?_,by rw [HL.out];exact hown⟩,by simp [intOf];omega⟩
     refine Below.grown ?_ hg2 (by simp;omega) (fun j hj=>HW.out.ge hj)
     exact (HQ.out.alloc hg _).drew
   ·have HL:=Lib.hid (ZpK (t:=⟨sp,s⟩) hlt h47)
    go_wp2
    go_roundw
    case rel=>exact ⟨q+1,by omega,by go_num,HQ.out,by rw [HL.out];exact HW.out⟩
    case measure=>simp [intOf];omega
  ·obtain rfl:q=s.size:=by omega
   go_wp2
   go_ret
   refine ⟨_,rfl,?_,Below.tr HB2.out HQ.out⟩
   rw [HA.out,if_pos trivial]
   exact HW.out.base HB2.out.size
theorem SlR.strCells {w:World} {A:Option Addr} {n c:Nat} {xs:List ByteArray} (h:SlR w A n c xs) (h0:0<n):∃ b off,A=some ⟨b,off,none⟩∧∀ j,j<xs.length→w.cell? ⟨b,off+j,none⟩=some (.string (xs.getD j ByteArray.empty)):=by
 obtain ⟨b,off,css,hA,_,_,hx⟩:=h.2.2.2 h0
 refine ⟨b,off,hA,fun j hj=>?_⟩
 obtain ⟨hR,hc⟩:=hx j xs[j] (List.getElem?_eq_getElem hj)
 have hR':css j = [.string xs[j]]:=hR
 have:=hc 0 _ (by rw [hR'];rfl)
 rw [List.getD_eq_getElem?_getD,List.getElem?_eq_getElem hj,Option.getD_some]
 simpa using this
theorem Zl0 (L:List ByteArray) (s:ByteArray):Lib.containsS L s=ZtH L s:=by
 unfold ZtH
 rw [Bool.eq_iff_iff,Lib.containsS_iff,List.any_eq_true]
 exact ⟨fun h=>⟨s,h,by simp⟩,fun ⟨x,hx,he⟩=>by rw [← of_decide_eq_true he];exact hx⟩
theorem ZmZ (A:Option Addr) (n c:Nat) (L:List ByteArray) (s:ByteArray) (w:World) (hS:SlR w A n c L):Calls Tryz.prog 107 #[.slice A n c,.string s] w fun e w'=>e = .returned (.bool (ZtH L s))∧w'=w:=by
 have hn:=hS.1
 have hle:=hS.le
 rcases Nat.eq_zero_or_pos n with h0 | h0
 ·subst h0
  obtain rfl:L = []:=List.eq_nil_of_length_eq_zero hn.symm
  exact Tryz.slices_Contains_string_empty A c s w
 ·obtain ⟨b,off,rfl,hc⟩:=hS.strCells h0
  refine (Tryz.slices_Contains_string b off n c L s w (by omega) (by omega) hc).mono ?_
  rintro e w' ⟨rfl,rfl⟩
  exact ⟨by rw [List.take_of_length_le (by omega),Zl0],rfl⟩
def Zep (a b:Scope):Bool:=decide (a.kind=b.kind)&&(if a.kind=3 then decide (a.title=b.title) else if a.kind=2 then decide (a.title.space=b.title.space) else true)
theorem ZoP {a b:Scope} (h:¬ a.kind=b.kind):Zep a b=false:=by unfold Zep;rw [decide_eq_false h,Bool.false_and]
theorem ZlJ {a b:Scope} (h:a.kind=b.kind) (h3:a.kind=3):Zep a b=decide (a.title=b.title):=by unfold Zep;rw [decide_eq_true h,if_pos h3,Bool.true_and]
theorem Zq3 {a b:Scope} (h:a.kind=b.kind) (h3:a.kind=2):Zep a b=decide (a.title.space=b.title.space):=by unfold Zep;rw [decide_eq_true h,if_neg (by omega),if_pos h3,Bool.true_and]
theorem Zq4 {a b:Scope} (h:a.kind=b.kind) (h3:¬ a.kind=3) (h2:¬ a.kind=2):Zep a b=true:=by unfold Zep;rw [decide_eq_true h,if_neg h3,if_neg h2,Bool.true_and]
set_option maxRecDepth 100000 in
set_option maxHeartbeats 1000000 in
theorem Zup (a b:Scope) (w:World):Calls Tryz.prog 135 #[.agg #[.int .i64 a.kind,.int .i64 a.title.space,.string a.title.name],.agg #[.int .i64 b.kind,.int .i64 b.title.space,.string b.title.name]] w fun e w'=>e = .returned (.bool (Zep a b))∧Below w.heap.size w w':=by
 have HD:Hid (∀ x y:Title,x=y↔x.space=y.space∧x.name.toList=y.name.toList):=Lib.hid fun x y=>by
  obtain ⟨x1,x2⟩:=x
  obtain ⟨y1,y2⟩:=y
  simp only [Title.mk.injEq,ZbQ]
 have HB:Hid (∀ o1 o2,Below w.heap.size w ((w.alloc o1).alloc o2)):=Lib.hid fun o1 o2=>Below.al (Below.al (Below.refl _ _) _) _
 go_enter Tryz.func135,Tryz.ntmps135
 go_wp2
 all_goals (try simp only [beq_iff_eq,beq_eq_false_iff_ne,bne_iff_ne,bne_eq_false_iff_eq,ne_eq] at *)
 all_goals
  go_ret
  refine ⟨ZaI ?_,HB.out _ _⟩
  first
  | (rw [ZoP (by assumption)];done)
  | (rw [Zq4 (by assumption) (by assumption) (by assumption)];done)
  | (rw [Zq3 (by assumption) (by assumption)];first | rfl | simp_all)
  | (rw [ZlJ (by assumption) (by assumption)];refine (decide_eq_true ?_).symm;rw [HD.out];constructor<;>assumption)
  | (rw [ZlJ (by assumption) (by assumption)];refine (decide_eq_false ?_).symm;rw [HD.out];rintro ⟨h1,h2⟩;first | (exact absurd h1 (by assumption)) | (exact absurd h2 (by assumption)))
set_option maxRecDepth 100000 in
set_option maxHeartbeats 1000000 in
theorem ZpB (a b:Scope) (w:World):Calls Tryz.prog 108 #[.agg #[.int .i64 a.kind,.int .i64 a.title.space,.string a.title.name],.agg #[.int .i64 b.kind,.int .i64 b.title.space,.string b.title.name]] w fun e w'=>e = .returned (.bool (Zep a b))∧Below w.heap.size w w':=by
 have HD:Hid (∀ x y:Title,x=y↔x.space=y.space∧x.name.toList=y.name.toList):=Lib.hid fun x y=>by
  obtain ⟨x1,x2⟩:=x
  obtain ⟨y1,y2⟩:=y
  simp only [Title.mk.injEq,ZbQ]
 have HB:Hid (∀ o1 o2,Below w.heap.size w ((w.alloc o1).alloc o2)):=Lib.hid fun o1 o2=>Below.al (Below.al (Below.refl _ _) _) _
 go_enter Tryz.func108,Tryz.ntmps108
 go_wp2
 all_goals (try simp only [beq_iff_eq,beq_eq_false_iff_ne,bne_iff_ne,bne_eq_false_iff_eq,ne_eq] at *)
 all_goals
  go_ret
  refine ⟨ZaI ?_,HB.out _ _⟩
  first
  | (rw [ZoP (by assumption)];done)
  | (rw [Zq4 (by assumption) (by assumption) (by assumption)];done)
  | (rw [Zq3 (by assumption) (by assumption)];first | rfl | simp_all)
  | (rw [ZlJ (by assumption) (by assumption)];refine (decide_eq_true ?_).symm;rw [HD.out];constructor<;>assumption)
  | (rw [ZlJ (by assumption) (by assumption)];refine (decide_eq_false ?_).symm;rw [HD.out];rintro ⟨h1,h2⟩;first | (exact absurd h1 (by assumption)) | (exact absurd h2 (by assumption)))
end Go.Proofs.YtjoneoobolnnbaaGreatDoor
namespace Go.Proofs.YtjoneoobolnnbaaGreatDoor
open VL Go.RowKit
theorem ZqZ (t:Title):Zb Tryz.prog 54 [t.pv] (.bool t.valid):=
 Zak (vals:=[.agg #[.int .i64 t.space,.string t.name]]) (by kernel_rfl) rfl rfl (fun x=>.bool _) fun w hw=>ZmQ t w hw.1
theorem Zpv (t:Title):Zb Tryz.prog 68 [t.pv] (.bool t.valid):=
 Zak (vals:=[.agg #[.int .i64 t.space,.string t.name]]) (by kernel_rfl) rfl rfl (fun x=>.bool _) fun w _=>Zmy t w
theorem args2 {x:Ctx} {p q:PV} {vs:Array Value} (h:Pre x [p,q] none vs):∃ v w,vs = #[v,w]∧Rep x p v∧Rep x q w:=by
 have hs:vs.size=2:=h.size.symm
 refine ⟨vs[0],vs[1],?_,h.rep 0 p _ rfl (Array.getElem?_eq_getElem (by omega)),h.rep 1 q _ rfl (Array.getElem?_eq_getElem (by omega))⟩
 apply Array.ext
 ·exact hs
 ·intro i h1 h2
  match i,(show i<2 by omega) with
  | 0,_=>rfl
  | 1,_=>rfl
theorem ZnF {x:Ctx} {s:ByteArray} {v:Value} (h:Rep x (.str s) v):v = .string s:=by cases h;rfl
theorem ZkM (L:List ByteArray) (s:ByteArray):Zb Tryz.prog 107 [Ztg L,.str s] (.bool (ZtH L s)):=
 Zex (by kernel_rfl) rfl (fun x=>.bool _) fun x vs hp _=>by
  obtain ⟨v,w,rfl,h1,h2⟩:=args2 hp
  obtain rfl:=ZnF h2
  obtain ⟨A,n,c,rfl,hS⟩:=Zjz hp.flt h1
  exact (ZmZ A n c L s x.W hS).mono fun e w' ⟨e1,e2⟩=>⟨e1,e2 ▸ Below.refl _ _⟩
theorem ZsW (a b:Scope):Zb Tryz.prog 108 [a.pv,b.pv] (.bool (Zep a b)):=
 Zak (vals:=[.agg #[.int .i64 a.kind,.int .i64 a.title.space,.string a.title.name],.agg #[.int .i64 b.kind,.int .i64 b.title.space,.string b.title.name]]) (by kernel_rfl) rfl rfl (fun x=>.bool _) fun w _=>ZpB a b w
end Go.Proofs.YtjoneoobolnnbaaGreatDoor
set_option linter.unusedVariables false
namespace Go.Proofs.YtjoneoobolnnbaaGreatDoor
open VL
def ZaG (s:ByteArray):Option Bool:=some (Zb2 s)
theorem ZbH (s:ByteArray) (r:Bool) (h:ZaG s=some r):Zb Tryz.prog 121 [.str s] (.bool r):=by cases h;exact Zqb s
def ZcG (s:ByteArray):Option Bool:=some (Zb2 s)
theorem ZcH (s:ByteArray) (r:Bool) (h:ZcG s=some r):Zb Tryz.prog 55 [.str s] (.bool r):=by cases h;exact Zqc s
def Zbc (t:Title):Option Bool:=some t.valid
theorem Zbv (t:Title) (r:Bool) (h:Zbc t=some r):Zb Tryz.prog 68 [t.pv] (.bool r):=by cases h;exact Zpv t
def Zd4 (t:Title):Option Bool:=some t.valid
theorem ZdD (t:Title) (r:Bool) (h:Zd4 t=some r):Zb Tryz.prog 54 [t.pv] (.bool r):=by cases h;exact ZqZ t
def Zro (L:List ByteArray) (s:ByteArray):Option Bool:=some (ZtH L s)
def slices_Contains_string (L:List ByteArray) (s:ByteArray):Option Bool:=some (ZtH L s)
theorem Zbe (L:List ByteArray) (s:ByteArray) (r:Bool) (h:slices_Contains_string L s=some r):Zb Tryz.prog 107 [.sl (List.map csS L),.str s] (.bool r):=by cases h;exact ZkM L s
def Zgz (a b:Title):Option Int:=some (Title.cmp a b)
theorem Zf9 (a b:Title) (r:Int) (h:Zgz a b=some r):Zb Tryz.prog 139 [a.pv,b.pv] (.int .i64 r):=by
 cases h
 exact Zak (vals:=[.agg #[.int .i64 a.space,.string a.name],.agg #[.int .i64 b.space,.string b.name]]) (by kernel_rfl) rfl rfl (fun x=>.int _ _) fun w _=>ZgY a b w
end Go.Proofs.YtjoneoobolnnbaaGreatDoor
namespace Go.Proofs.YtjoneoobolnnbaaGreatDoor
namespace VL
open Go.RowKit Go.Sort
section
variable {α:Type} [Inhabited α]
theorem Zif (enc:α→List Value) (k:Nat) (hk:∀ x,(enc x).length=k) (M:List α):(flatK enc k M.toArray).toList=M.flatMap enc:=by
 have hlen:(M.flatMap enc).length=M.length * k:=by
  induction M with
  | nil=>simp
  | cons x M ih=>simp [List.flatMap_cons,hk,ih,Nat.succ_mul];omega
 apply List.ext_getElem?
 intro t
 by_cases ht:t<M.length * k
 ·have hk0:0<k:=by rcases Nat.eq_zero_or_pos k with h | h
                   ·subst h;simp at ht
                   ·exact h
  have hi:t / k<M.length:=Nat.div_lt_of_lt_mul (by rw [Nat.mul_comm];exact ht)
  have hj:t % k<k:=Nat.mod_lt _ hk0
  have e:=Zl5 enc k hk M (t / k) M[t / k] (t % k) ((enc M[t / k])[t % k]'(by rw [hk];exact hj)) (List.getElem?_eq_getElem hi) (List.getElem?_eq_getElem (by rw [hk];exact hj))
  rw [Nat.mul_comm (t / k) k,Nat.div_add_mod] at e
  rw [e]
  have h1:t<(flatK enc k M.toArray).size:=by rw [size_flatK];simpa using ht
  have h2:=get_flatK enc k M.toArray t (by simpa using ht)
  rw [getElem!_pos _ t h1] at h2
  rw [Array.getElem?_toList,Array.getElem?_eq_getElem h1,h2,getElem!_pos M.toArray (t / k) (by simpa using hi)]
  simp only [List.getElem_toArray]
  rw [getElem!_pos (enc M[t / k]) (t % k) (by rw [hk];exact hj)]
 ·rw [List.getElem?_eq_none (l:=(flatK enc k M.toArray).toList) (by simp;omega),List.getElem?_eq_none (l:=M.flatMap enc) (by rw [hlen];omega)]
theorem ZpO (enc:α→List Value) (k:Nat) (hk:∀ x,(enc x).length=k) {w:World} {g:Nat} {cur:Array Value} {E:TypeId} {L:List α} (hb:w.heap[g]? = some (.cells cur E (0,0))) (ht:cur.toList.take (L.length * k)=L.flatMap enc):HoldsK enc k w g 0 L.toArray:=by
 intro j hj
 have hj':j<L.length * k:=by simpa using hj
 refine ⟨?_,by simp [World.frozen?,hb]⟩
 have h1:(cur.toList.take (L.length * k))[j]? = (flatK enc k L.toArray).toList[j]?:=by rw [ht,Zif enc k hk]
 rw [List.getElem?_take_of_lt hj'] at h1
 simp only [World.cell?,hb,Nat.zero_add]
 simp only [Option.isSome_none,Bool.false_eq_true,if_false]
 rw [← Array.getElem?_toList,h1,Array.getElem?_toList,Array.getElem?_eq_getElem hj,getElem!_pos _ j hj]
 rfl
theorem Zn6 (enc:α→List Value) (k:Nat) (hk:∀ x,(enc x).length=k) {w:World} {g cap n:Nat} {cur:Array Value} {E:TypeId} {M:List α} (hb:w.heap[g]? = some (.cells cur E (0,0))) (h1:M.length≤cap) (h2:cap≤maxLen) (h3:cur.size=cap * k) :
  (putRowK enc k (Sort.ahead w n) g 0 M.toArray).ownsRow 0 E k (.slice (some ⟨g,0,none⟩) M.length cap) M.length (M.flatMap enc)∧Gr (fun b=>blk (.slice (some ⟨g,0,none⟩) M.length cap)=some b) w (putRowK enc k (Sort.ahead w n) g 0 M.toArray):=by
 have hg:g<w.heap.size:=(Array.getElem?_eq_some_iff.1 hb).1
 have hh:(putRowK enc k (Sort.ahead w n) g 0 M.toArray).heap[g]? = some (.cells (putCells id 0 (flatK enc k M.toArray) cur) E (0,0)):=by
  simp [putRowK,putRow,mapBlock,Sort.ahead,Array.getElem?_modify,hb,onCells]
 have hlen:(M.flatMap enc).length=M.length * k:=by rw [← Zif enc k hk M];simp
 refine ⟨⟨hlen,.inr ⟨g,cap,_,rfl,Nat.zero_le _,hh,h1,h2,by simp [putCells,h3],?_⟩⟩,rfl,rfl,rfl,by simp [putRowK,putRow,mapBlock,Sort.ahead],fun b hb' hne=>?_⟩
 ·rw [← Zif enc k hk M]
  have hle:M.length * k≤cur.size:=by rw [h3];exact Nat.mul_le_mul_right _ h1
  apply List.ext_getElem?
  intro j
  by_cases hj:j<M.length * k
  ·rw [List.getElem?_take_of_lt hj,Array.getElem?_toList,Array.getElem?_toList]
   simp [putCells,hj,show j<cur.size by omega]
  ·rw [List.getElem?_take_eq_none (by omega),List.getElem?_eq_none (by simp;omega)]
 ·have:g≠b:=fun e=>hne (by rw [e];rfl)
  simp [putRowK,putRow,mapBlock,Sort.ahead,Array.getElem?_modify,this]
end
theorem ZhK:∀ {a b:List PV} {va vb:List Value},Za8 a=some va→Za8 b=some vb→Za8 (a++b)=some (va++vb)
 | [],b,va,vb,h,k=>by
   injection h with h
   subst h
   exact k
 | p::a,b,va,vb,h,k=>by
   simp only [Za8] at h
   split at h
   ·rename_i v vs h1 h2
    injection h with h
    subst h
    simp only [List.cons_append,Za8]
    rw [h1,ZhK h2 k]
   ·cases h
theorem Zc0 {α:Type} {cs:α→List PV} {enc:α→List Value} (h:∀ x,Za8 (cs x)=some (enc x)):∀ (xs:List α),Za8 (xs.map cs).flatten=some (xs.flatMap enc)
 | []=>rfl
 | x::xs=>by
   rw [List.map_cons,List.flatten_cons,List.flatMap_cons]
   exact ZhK (h x) (Zc0 h xs)
section
variable {P:Program} [WInv P]
theorem ZgR {α:Type} [Enc α] [EncPV α] {f:FuncId} {args:List PV} {vals:List Value} {E:TypeId} {xs:List α} {enc:α→List Value} (hg:isGo P f=true) (hp:∀ (x:Ctx) (vs:Array Value),Pre x args none vs→vs=vals.toArray) (hpl:∀ x:α,Za8 (EncPV.cs x)=some (enc x))
  (hE:∀ (S:Nat→Prop) (w:World) (x:α) (cs:List Value),Enc.R S w x cs→cs=enc x) (hk:∀ x:α,(EncPV.cs x).length=Enc.k α)
  (h:∀ w,(∀ W,Below w.heap.size w W→WInv.I P W)→Calls P f vals.toArray w fun e w'=>∃ v,e = .returned v∧OwnL w' w.heap.size E v xs∧Below w.heap.size w w'):ContractN P f args (.row E (Enc.k α) false (xs.map EncPV.cs)):=by
 refine ⟨hg,fun cs h=>(by cases h),fun x vs hpre hI=>?_⟩
 obtain rfl:vs=vals.toArray:=hp x vs hpre
 refine (h x.W fun W hW=>hI W ⟨hW.os,hW.tape,hW.output,hW.size,fun b hb _=>hW.block b hb⟩).mono ?_
 rintro _ w' ⟨v,rfl,⟨css,hl,hown,hR⟩,hb⟩
 let y:Ctx:=⟨fun g=>g=(0,0),x.F,w',fun _=>v⟩
 have hcss:css.flatten=xs.flatMap enc:=by
  have:css=xs.map enc:=by
   apply List.ext_getElem?
   intro i
   by_cases hi:i<xs.length
   ·have h1:xs[i]? = some xs[i]:=List.getElem?_eq_getElem hi
    have h2:css[i]? = some css[i]:=List.getElem?_eq_getElem (by omega)
    rw [h2,List.getElem?_map,h1,hE _ _ _ _ (hR i _ _ h1 h2)]
    rfl
   ·rw [List.getElem?_eq_none (by omega),List.getElem?_eq_none (by simp;omega)]
  rw [this]
  rfl
 have hpure:∀ e ∈ xs.map EncPV.cs,∀ p ∈ e,p.pure=true:=fun e he p hpm=>by
  obtain ⟨z,_,rfl⟩:=List.mem_map.1 he
  obtain ⟨j,hj⟩:=List.getElem?_of_mem hpm
  have:=ZeL (hpl z) hj
  obtain ⟨r,_,_⟩:=this
  have:∀ (l:List PV) {vs:List Value},Za8 l=some vs→∀ p ∈ l,p.pure=true:=fun l=>by
   induction l with
   | nil=>intro vs _ p hp;cases hp
   | cons q l ih=>
     intro vs hq p hp
     simp only [Za8] at hq
     split at hq
     ·rename_i v1 vs1 h1 h2
      rcases List.mem_cons.1 hp with rfl | hp
      ·cases p<;>simp_all [ZhC,PV.pure]
      ·exact ih h2 p hp
     ·cases hq
  exact this _ (hpl z) p hpm
 refine ⟨y,v,rfl,rfl,⟨fun g hg=>?_,fun _ _ h=>h,fun b o v hF hv=>(World.cell?_of_block (hb.block b (hpre.flt b o hF))).trans hv⟩,Gr.ofBelow hb,fun _ _ h=>.inl h,fun b o hF=>Nat.lt_of_lt_of_le (hpre.flt b o hF) hb.size,(0,0),rfl,fun e he=>?_,hpure,css.flatten,?_,fun m p w hm hw=>?_,fun b hbk=>?_⟩
 ·obtain ⟨j,os,h,_⟩:=hpre.gen g hg
  cases h
 ·obtain ⟨z,_,rfl⟩:=List.mem_map.1 he
  exact hk z
 ·rw [List.length_map]
  exact ⟨hown.1,hown.2.imp id fun ⟨g,cap,cur,h1,h2,h3⟩=>⟨g,cap,cur,h1,Nat.zero_le _,h3⟩⟩
 ·obtain ⟨r,h1,h2⟩:=ZeL (Zc0 hpl xs) hm
  rw [hcss,h1] at hw
  injection hw with hw
  subst hw
  rw [← h2]
  exact ZhL y r
 ·have hB:x.W.heap.size≤b:=by
   change blk v=some b at hbk
   rcases hown.2 with ⟨hn,_⟩ | ⟨b',cap,cur,hv,hB,_⟩
   ·rw [hn] at hbk
    simp [blk] at hbk
   ·rw [hv] at hbk
    obtain rfl:b'=b:=by simpa [blk] using hbk
    exact hB
  exact ⟨.inl hB,fun o hF=>by
   have h1:=hpre.flt b o hF
   omega⟩
theorem Zkv {α:Type} [Enc α] [EncPV α] {f:FuncId} {args:List PV} {vals:List Value} {E:TypeId} {xs:List α} {enc:α→List Value} (hg:isGo P f=true) (hp:∀ (x:Ctx) (vs:Array Value),Pre x args none vs→vs=vals.toArray) (hpl:∀ x:α,Za8 (EncPV.cs x)=some (enc x))
  (hE:∀ (S:Nat→Prop) (w:World) (x:α) (cs:List Value),Enc.R S w x cs→cs=enc x) (hk:∀ x:α,(EncPV.cs x).length=Enc.k α)
  (h:∀ w,WInv.I P w→Calls P f vals.toArray w fun e w'=>∃ v,e = .returned v∧OwnL w' w.heap.size E v xs∧Below w.heap.size w w'):ContractN P f args (.row E (Enc.k α) false (xs.map EncPV.cs)):=
 ZgR hg hp hpl hE hk fun w hw=>h w (hw w (Below.refl _ _))
theorem Zfo {α:Type} [Enc α] [EncPV α] {f:FuncId} {args:List PV} {vals:List Value} {E:TypeId} {xs:List α} {enc:α→List Value} (hg:isGo P f=true) (hp:ZkK args=some vals) (hpl:∀ x:α,Za8 (EncPV.cs x)=some (enc x))
  (hE:∀ (S:Nat→Prop) (w:World) (x:α) (cs:List Value),Enc.R S w x cs→cs=enc x) (hk:∀ x:α,(EncPV.cs x).length=Enc.k α)
  (h:∀ w,WInv.I P w→Calls P f vals.toArray w fun e w'=>∃ v,e = .returned v∧OwnL w' w.heap.size E v xs∧Below w.heap.size w w'):ContractN P f args (.row E (Enc.k α) false (xs.map EncPV.cs)):=by
 refine Zkv (vals:=vals) hg (fun x vs hpre=>?_) hpl hE hk h
 have e:vs.toList=vals:=Zh5 args hp vs.toList (by simpa using hpre.size) fun i p v hp hv=>hpre.rep i p v hp (by simpa using hv)
 rw [← e]
end
end VL
end Go.Proofs.YtjoneoobolnnbaaGreatDoor
namespace Go.Proofs.YtjoneoobolnnbaaGreatDoor
open Go.RowKit
def Zgw:List Title→List Scope
 | []=>[]
 | a::r=>Zgw r ++ [⟨3,a⟩]
def Zat (t:Title):List Scope:=[⟨3,t⟩]++Zgw (ZkW t) ++ [⟨2,⟨t.space,⟨#[]⟩⟩⟩,⟨1,⟨0,⟨#[]⟩⟩⟩]
theorem ZiH:∀ l,(Zgw l).length=l.length
 | []=>rfl
 | a::r=>by simp [Zgw,ZiH r]
theorem ZoV (t:Title):(ZkW t).length≤100:=by
 unfold ZkW
 split
 ·rename_i h
  have:=ZjT t t.name.size
  simp only [Title.valid,Bool.and_eq_true,decide_eq_true_eq] at h
  omega
 ·simp
end Go.Proofs.YtjoneoobolnnbaaGreatDoor
namespace Go.Proofs.YtjoneoobolnnbaaGreatDoor
open VL Go.RowKit
def ZdC (x:Title):List Value:=[.int .i64 x.space,.string x.name]
theorem ZeP (x:Title):Za8 (Title.cs x)=some (ZdC x):=rfl
instance:EncPV Title:=⟨Title.cs,fun w x vs h=>by
 have h':vs=ZdC x:=h
 subst h'
 refine ⟨rfl,fun j p v hp hv=>?_⟩
 obtain ⟨r,h1,h2⟩:=ZeL (ZeP x) hp
 rw [h1] at hv
 injection hv with hv
 subst hv
 match j,hp with
 | 0,hp=>injection hp with hp;subst hp;injection h1 with h1;subst h1;exact ⟨rfl,.int .i64 _⟩
 | 1,hp=>injection hp with hp;subst hp;injection h1 with h1;subst h1;exact ⟨rfl,.str _⟩⟩
theorem ZnZ (t:Title):ContractN Tryz.prog 162 [t.pv] (.row 29 2 false ((ZkW t).map Title.cs)):=
 Zfo (vals:=[.agg #[.int .i64 t.space,.string t.name]]) (enc:=ZdC) (by kernel_rfl) rfl ZeP (fun S w x cs h=>h) (fun x=>rfl) fun w hw=>ZlQ t w hw.1
instance:Inhabited Title:=⟨⟨0,⟨#[]⟩⟩⟩
theorem Zrm (M:List Title):ContractM Tryz.prog 163 29 2 (M.map Title.cs) (M.reverse.map Title.cs):=by
 have hk:∀ x,(ZdC x).length=2:=fun _=>rfl
 refine ⟨by kernel_rfl,fun e he=>?_,fun e he p hp=>?_,by rw [Zc0 ZeP];rfl,fun W v vs hown hvs _=>?_⟩
 ·obtain ⟨x,_,rfl⟩:=List.mem_map.1 he
  rfl
 ·obtain ⟨x,_,rfl⟩:=List.mem_map.1 he
  simp [Title.cs] at hp
  rcases hp with rfl | rfl<;>rfl
 ·rw [Zc0 ZeP] at hvs
  injection hvs with hvs
  subst hvs
  rw [List.length_map] at hown
  rcases hown.2 with ⟨hn,h0⟩ | ⟨g,cap,cur,hv,hB,hh,h1,h2,h3,ht⟩
  ·obtain rfl:M = []:=List.eq_nil_of_length_eq_zero h0
   subst hn
   refine (AnyQ.slices_Reverse_empty Tryz.reverseTitle none 0 W).mono ?_
   rintro e w' ⟨rfl,rfl⟩
   exact ⟨[],rfl,rfl,World.ownsRow_nil _ _ _ _,Gr.refl _ _⟩
  ·subst hv
   have hH:=ZpO ZdC 2 hk hh ht
   have hle:M.toArray.size≤9223372036854775807:=by unfold maxLen at h2;simp;omega
   have:=AnyQ.slices_Reverse Tryz.reverseTitle 2 Tryz.isAgg29 Tryz.sizeOf29 ZdC hk (fun x v hv=>by simp [ZdC] at hv;rcases hv with rfl | rfl<;>rfl) g 0 cap M.toArray W hH hle
   refine Calls.mono this ?_
   rintro e w' ⟨rfl,n,rfl⟩
   have hr:M.toArray.reverse=M.reverse.toArray:=by simp
   rw [hr]
   obtain ⟨o1,o2⟩:=Zn6 (n:=n) ZdC 2 hk (M:=M.reverse) hh (by simpa using h1) h2 h3
   rw [List.length_reverse] at o1 o2
   refine ⟨M.reverse.flatMap ZdC,rfl,Zc0 ZeP _,?_,?_⟩
   ·rw [List.length_map,List.length_reverse]
    exact o1
   ·exact o2
end Go.Proofs.YtjoneoobolnnbaaGreatDoor
namespace Go.Proofs.YtjoneoobolnnbaaGreatDoor
open VL
theorem ZtA:∀ l:List Title,Zgw l=l.reverse.map fun a=>(⟨3,a⟩:Scope)
 | []=>rfl
 | a::r=>by simp [Zgw,ZtA r]
set_option maxHeartbeats 2000000 in
set_option maxRecDepth 100000 in
theorem Zsz (t:Title):Zb Tryz.prog 106 [t.pv] (.sl ((Zat t).map Scope.cs)):=by
 have hlen:=ZoV t
 refine Za6 mix Tryz.func106 (by kernel_rfl) rfl (by kernel_rfl) ?_
 repeat (first | (refine Zev (ZnZ t) rfl rfl ?_) | (refine Zqr (Zrm _) rfl rfl rfl ?_) | refine Zy rfl rfl (by omega) ?_ | refine Zx rfl rfl rfl (by omega) (by omega) ?_ | refine g_dec rfl rfl rfl (by omega) ?_ | refine Zz rfl rfl rfl (by omega) (by omega) ?_ | refine Zad ?_ | refine Zm Tryz.underlying9 rfl rfl ?_)
 refine Zl (α:=Nat) (fun i _=>mkS [(1,.ptr 1 (1,1) 0),(3,.row 9 (1,9)),(14,.sl ((ZkW t).reverse.map Title.cs)),(15,.int .i64 ((ZkW t).length:Int)),(16,.int .i64 ((i:Nat):Int))]
   [(1,some ((1,1),.box t.cs)),(9,some ((1,9),.row 143 3 false ((⟨3,t⟩::((ZkW t).reverse.take i).map fun a=>(⟨3,a⟩:Scope)).map Scope.cs)))] 2)
  (fun i=>i≤(ZkW t).length) (fun i=>(ZkW t).length - i) 0 2 (Nat.zero_le _)
  (Shift.trans (Zum 14 rfl rfl) (Zt [((1,1),_),((1,9),_)] ⟨rfl,rfl,rfl,?_,rfl,trivial⟩ ⟨⟨rfl,rfl⟩,⟨rfl,rfl⟩,trivial⟩ rfl)) (fun i _ (hi:i≤(ZkW t).length)=>?_)
 ·show some (PV.int .i64 ((ZkW t).length:Int))=some (PV.int .i64 (((ZkW t).reverse.map Title.cs).length:Int))
  rw [List.length_map,List.length_reverse]
 repeat (first | refine Zy rfl rfl (by omega) ?_ | refine Zx rfl rfl rfl (by omega) (by omega) ?_ | refine g_dec rfl rfl rfl (by omega) ?_ | refine Zz rfl rfl rfl (by omega) (by omega) ?_ | refine Zad ?_ | refine Zm Tryz.underlying9 rfl rfl ?_)
 by_cases hlt:(i:Int)<((ZkW t).length:Int)
 ·refine ZM (by (conv=>lhs;whnf);try rfl) (decide_eq_true hlt) ?_
  have hlt':i<(ZkW t).reverse.length:=by rw [List.length_reverse];omega
  obtain ⟨x,hx⟩:∃ x,(ZkW t).reverse[i]? = some x:=⟨_,List.getElem?_eq_getElem hlt'⟩
  have hcs:((ZkW t).reverse.map Title.cs)[i]? = some x.cs:=by rw [List.getElem?_map,hx];rfl
  repeat (first | (refine Zgv rfl rfl rfl hcs rfl ?_) | (refine ZfW rfl rfl rfl rfl (by show (List.length _+1) * _≤_;simp;omega) (by show List.length _+1≤_;simp;omega) (by rfl) ?_) | refine Zy rfl rfl (by omega) ?_ | refine Zx rfl rfl rfl (by omega) (by omega) ?_ | refine g_dec rfl rfl rfl (by omega) ?_ | refine Zz rfl rfl rfl (by omega) (by omega) ?_ | refine Zad ?_ | refine Zm Tryz.underlying9 rfl rfl ?_)
  refine ZJ (i+1) 2 (by omega) (by show (ZkW t).length - (i+1)<(ZkW t).length - i;omega) (Zt [((1,1),(1,1)),((1,9),_)] ⟨rfl,rfl,rfl,rfl,rfl,trivial⟩ ⟨⟨rfl,rfl⟩,⟨?_,rfl⟩,trivial⟩ rfl)
  rw [List.take_add_one,hx]
  simp only [Option.toList_some,List.map_append,List.map_cons,List.map_nil]
  rfl
 ·refine ZE (by (conv=>lhs;whnf);try rfl) (decide_eq_false hlt) ?_
  repeat (first | (refine ZfW rfl rfl rfl rfl (by show (List.length _+2) * _≤_;simp;omega) (by show List.length _+2≤_;simp;omega) (by rfl) ?_) | refine Zy rfl rfl (by omega) ?_ | refine Zx rfl rfl rfl (by omega) (by omega) ?_ | refine g_dec rfl rfl rfl (by omega) ?_ | refine Zz rfl rfl rfl (by omega) (by omega) ?_ | refine Zad ?_ | refine Zm Tryz.underlying9 rfl rfl ?_)
  refine ZaO rfl rfl ?_
  unfold Zat
  rw [ZtA,List.take_of_length_le (by simp;omega)]
  simp only [List.map_append,List.map_cons,List.map_nil]
  rfl
def ZaS (G:List ByteArray) (right:Int) (lv:Scope) (r:Rule):Bool:=decide (r.right=right)&&ZtH G r.group&&Zep r.scope lv
def Ze9 (R:List Rule) (G:List ByteArray) (right:Int):List Scope→Bool
 | []=>false
 | lv::rest=>if R.any (ZaS G right lv) then R.all (fun r=>!ZaS G right lv r||r.allow) else Ze9 R G right rest
def ZsA (p:Policy) (G:List ByteArray) (right:Int) (t:Title):Bool:=t.valid&&decide (1≤right)&&decide (right≤5)&&Ze9 p.rules G right (Zat t)
theorem ZsB {α:Type} {R:List α} {f:α→Bool} {k:Nat} {r:α} (h:R[k]? = some r):(R.take (k+1)).any f=((R.take k).any f||f r):=by rw [List.take_add_one,h];simp
theorem ZsC {α:Type} {R:List α} {f:α→Bool} {k:Nat} {r:α} (h:R[k]? = some r):(R.take (k+1)).all f=((R.take k).all f&&f r):=by rw [List.take_add_one,h];simp
set_option maxHeartbeats 8000000 in
set_option maxRecDepth 100000 in
theorem ZwL (p:Policy) (G:List ByteArray) (right:Int) (t:Title) (hR:p.rules.length≤1000000):Zb Tryz.prog 59 [p.pv,Ztg G,.int .i64 right,t.pv] (.bool (ZsA p G right t)):=by
 have hcv:=ZqZ t
 have hll:(Zat t).length≤103:=by unfold Zat;have:=ZoV t;simp [ZiH];omega
 refine Za6 mix Tryz.func59 (by kernel_rfl) rfl (by kernel_rfl) ?_
 rcases Bool.eq_false_or_eq_true t.valid with hv | hv<;>rw [hv] at hcv
 ·repeat (first | (refine Zf hcv rfl rfl ?_) | refine Zy rfl rfl (by omega) ?_ | refine Zx rfl rfl rfl (by omega) (by omega) ?_ | refine g_dec rfl rfl rfl (by omega) ?_ | refine Zz rfl rfl rfl (by omega) (by omega) ?_ | refine Zad ?_ | refine Zm Tryz.underlying9 rfl rfl ?_)
  by_cases h1:right<1
  ·rw [decide_eq_true h1]
   repeat (first | (refine Zh rfl ?_) | refine Zy rfl rfl (by omega) ?_ | refine Zx rfl rfl rfl (by omega) (by omega) ?_ | refine g_dec rfl rfl rfl (by omega) ?_ | refine Zz rfl rfl rfl (by omega) (by omega) ?_ | refine Zad ?_ | refine Zm Tryz.underlying9 rfl rfl ?_)
   refine ZM (by (conv=>lhs;whnf);try rfl) rfl ?_
   repeat (first | refine Zy rfl rfl (by omega) ?_ | refine Zx rfl rfl rfl (by omega) (by omega) ?_ | refine g_dec rfl rfl rfl (by omega) ?_ | refine Zz rfl rfl rfl (by omega) (by omega) ?_ | refine Zad ?_ | refine Zm Tryz.underlying9 rfl rfl ?_)
   refine ZaO rfl rfl ?_
   unfold ZsA
   rw [decide_eq_false (show ¬ 1≤right by omega)]
   simp
   rfl
  ·rw [decide_eq_false h1]
   repeat (first | refine Zy rfl rfl (by omega) ?_ | refine Zx rfl rfl rfl (by omega) (by omega) ?_ | refine g_dec rfl rfl rfl (by omega) ?_ | refine Zz rfl rfl rfl (by omega) (by omega) ?_ | refine Zad ?_ | refine Zm Tryz.underlying9 rfl rfl ?_)
   by_cases h5:5<right
   ·refine ZM (by (conv=>lhs;whnf);try rfl) (decide_eq_true h5) ?_
    repeat (first | refine Zy rfl rfl (by omega) ?_ | refine Zx rfl rfl rfl (by omega) (by omega) ?_ | refine g_dec rfl rfl rfl (by omega) ?_ | refine Zz rfl rfl rfl (by omega) (by omega) ?_ | refine Zad ?_ | refine Zm Tryz.underlying9 rfl rfl ?_)
    refine ZaO rfl rfl ?_
    unfold ZsA
    rw [decide_eq_false (show ¬ right≤5 by omega)]
    simp
    rfl
   ·refine ZE (by (conv=>lhs;whnf);try rfl) (decide_eq_false h5) ?_
    have hmay:ZsA p G right t=Ze9 p.rules G right (Zat t):=by
     unfold ZsA
     rw [hv,decide_eq_true (show 1≤right by omega),decide_eq_true (show right≤5 by omega)]
     rfl
    rw [hmay]
    repeat (first | (refine Zf (Zsz t) rfl rfl ?_) | refine Zy rfl rfl (by omega) ?_ | refine Zx rfl rfl rfl (by omega) (by omega) ?_ | refine g_dec rfl rfl rfl (by omega) ?_ | refine Zz rfl rfl rfl (by omega) (by omega) ?_ | refine Zad ?_ | refine Zm Tryz.underlying9 rfl rfl ?_)
    refine Zl (α:=Nat) (fun i _=>mkS [(1,Ztg G),(2,.int .i64 right),(4,.ptr 4 (1,4) 0),(27,.sl ((Zat t).map Scope.cs)),(28,.int .i64 ((Zat t).length:Int)),(29,.int .i64 ((i:Nat):Int))] [(4,some ((1,4),.box p.cs))] 2)
     (fun i=>i≤(Zat t).length∧Ze9 p.rules G right (Zat t)=Ze9 p.rules G right ((Zat t).drop i)) (fun i=>(Zat t).length - i) 0 2 ⟨Nat.zero_le _,rfl⟩
     (Zt [((1,4),(1,0))] ⟨rfl,rfl,rfl,rfl,?_,rfl,trivial⟩ ⟨⟨rfl,rfl⟩,trivial⟩ rfl) (fun i _ hJ=>?_)
    ·show some (PV.int .i64 ((Zat t).length:Int))=some (PV.int .i64 (((Zat t).map Scope.cs).length:Int))
     rw [List.length_map]
    obtain ⟨(hi:i≤(Zat t).length),(hno:Ze9 p.rules G right (Zat t)=Ze9 p.rules G right ((Zat t).drop i))⟩:=hJ
    repeat (first | refine Zy rfl rfl (by omega) ?_ | refine Zx rfl rfl rfl (by omega) (by omega) ?_ | refine g_dec rfl rfl rfl (by omega) ?_ | refine Zz rfl rfl rfl (by omega) (by omega) ?_ | refine Zad ?_ | refine Zm Tryz.underlying9 rfl rfl ?_)
    by_cases hlt:(i:Int)<((Zat t).length:Int)
    ·refine ZM (by (conv=>lhs;whnf);try rfl) (decide_eq_true hlt) ?_
     have hlt':i<(Zat t).length:=by omega
     obtain ⟨lv,hx⟩:∃ lv,(Zat t)[i]? = some lv:=⟨_,List.getElem?_eq_getElem hlt'⟩
     have hcs:((Zat t).map Scope.cs)[i]? = some lv.cs:=by rw [List.getElem?_map,hx];rfl
     have hd:(Zat t).drop i=lv::(Zat t).drop (i+1):=by
      rw [List.drop_eq_getElem_cons hlt']
      rw [List.getElem?_eq_getElem hlt'] at hx
      injection hx with hx
      rw [hx]
     rw [hd,Ze9] at hno
     repeat (first | (refine Zgv rfl rfl rfl hcs rfl ?_) | refine Zy rfl rfl (by omega) ?_ | refine Zx rfl rfl rfl (by omega) (by omega) ?_ | refine g_dec rfl rfl rfl (by omega) ?_ | refine Zz rfl rfl rfl (by omega) (by omega) ?_ | refine Zad ?_ | refine Zm Tryz.underlying9 rfl rfl ?_)
     refine Zl (α:=Nat) (fun k _=>mkS [(1,Ztg G),(2,.int .i64 right),(4,.ptr 4 (1,4) 0),(27,.sl ((Zat t).map Scope.cs)),(28,.int .i64 ((Zat t).length:Int)),(29,.int .i64 (i:Int)),(10,.ptr 10 (1,10) 0),(11,.bool ((p.rules.take k).any (ZaS G right lv))),(12,.bool ((p.rules.take k).all fun r=>!ZaS G right lv r||r.allow)),(34,.sl (p.rules.map Rule.cs)),(35,.int .i64 (p.rules.length:Int)),(36,.int .i64 ((k:Nat):Int))] [(4,some ((1,4),.box p.cs)),(10,some ((1,10),.box lv.cs))] 2)
      (fun k=>k≤p.rules.length) (fun k=>p.rules.length - k) 0 2 (Nat.zero_le _)
      (Zt [((1,4),(1,4)),((1,10),_)] ⟨rfl,rfl,rfl,rfl,rfl,rfl,rfl,rfl,rfl,rfl,?_,rfl,trivial⟩ ⟨⟨rfl,rfl⟩,⟨rfl,rfl⟩,trivial⟩ rfl) (fun k _ (hk:k≤p.rules.length)=>?_)
     ·show some (PV.int .i64 (p.rules.length:Int))=some (PV.int .i64 ((p.rules.map Rule.cs).length:Int))
      rw [List.length_map]
     repeat (first | refine Zy rfl rfl (by omega) ?_ | refine Zx rfl rfl rfl (by omega) (by omega) ?_ | refine g_dec rfl rfl rfl (by omega) ?_ | refine Zz rfl rfl rfl (by omega) (by omega) ?_ | refine Zad ?_ | refine Zm Tryz.underlying9 rfl rfl ?_)
     by_cases hlk:(k:Int)<(p.rules.length:Int)
     ·refine ZM (by (conv=>lhs;whnf);try rfl) (decide_eq_true hlk) ?_
      have hlk':k<p.rules.length:=by omega
      obtain ⟨r,hr⟩:∃ r,p.rules[k]? = some r:=⟨_,List.getElem?_eq_getElem hlk'⟩
      have hcr:(p.rules.map Rule.cs)[k]? = some r.cs:=by rw [List.getElem?_map,hr];rfl
      have hany:(p.rules.take (k+1)).any (ZaS G right lv)=((p.rules.take k).any (ZaS G right lv)||ZaS G right lv r):=ZsB hr
      have hall:(p.rules.take (k+1)).all (fun r=>!ZaS G right lv r||r.allow)=((p.rules.take k).all (fun r=>!ZaS G right lv r||r.allow)&&(!ZaS G right lv r||r.allow)):=ZsC (f:=fun r=>!ZaS G right lv r||r.allow) hr
      have hms:p.rules.length - (k+1)<p.rules.length - k:=by omega
      repeat (first | (refine Zgv rfl rfl rfl hcr rfl ?_) | refine Zy rfl rfl (by omega) ?_ | refine Zx rfl rfl rfl (by omega) (by omega) ?_ | refine g_dec rfl rfl rfl (by omega) ?_ | refine Zz rfl rfl rfl (by omega) (by omega) ?_ | refine Zad ?_ | refine Zm Tryz.underlying9 rfl rfl ?_)
      by_cases e1:r.right=right
      ·rw [decide_eq_true e1]
       repeat (first | (refine Zf (ZkM G _) rfl rfl ?_) | refine Zy rfl rfl (by omega) ?_ | refine Zx rfl rfl rfl (by omega) (by omega) ?_ | refine g_dec rfl rfl rfl (by omega) ?_ | refine Zz rfl rfl rfl (by omega) (by omega) ?_ | refine Zad ?_ | refine Zm Tryz.underlying9 rfl rfl ?_)
       rcases Bool.eq_false_or_eq_true (ZtH G r.group) with e2 | e2
       ·rw [e2]
        repeat (first | (refine Zf (ZsW r.scope lv) rfl rfl ?_) | refine Zy rfl rfl (by omega) ?_ | refine Zx rfl rfl rfl (by omega) (by omega) ?_ | refine g_dec rfl rfl rfl (by omega) ?_ | refine Zz rfl rfl rfl (by omega) (by omega) ?_ | refine Zad ?_ | refine Zm Tryz.underlying9 rfl rfl ?_)
        have hf:ZaS G right lv r=Zep r.scope lv:=by unfold ZaS;rw [decide_eq_true e1,e2];rfl
        rcases Bool.eq_false_or_eq_true (Zep r.scope lv) with e3 | e3
        ·refine ZM (by (conv=>lhs;whnf);try rfl) e3 ?_
         rw [hf,e3] at hany hall
         simp only [Bool.or_true,Bool.not_true,Bool.false_or] at hany hall
         rcases Bool.eq_false_or_eq_true ((p.rules.take k).all fun r=>!ZaS G right lv r||r.allow) with e4 | e4
         ·rw [e4]
          rw [e4,Bool.true_and] at hall
          repeat (first | refine Zy rfl rfl (by omega) ?_ | refine Zx rfl rfl rfl (by omega) (by omega) ?_ | refine g_dec rfl rfl rfl (by omega) ?_ | refine Zz rfl rfl rfl (by omega) (by omega) ?_ | refine Zad ?_ | refine Zm Tryz.underlying9 rfl rfl ?_)
          refine ZJ (k+1) 2 hlk' hms (Zt [((1,4),(1,4)),((1,10),(1,10))] ⟨rfl,rfl,rfl,rfl,rfl,rfl,rfl,?_,?_,rfl,rfl,rfl,trivial⟩ ⟨⟨rfl,rfl⟩,⟨rfl,rfl⟩,trivial⟩ rfl)
          ·rw [hany];rfl
          ·rw [hall];rfl
         ·rw [e4]
          rw [e4,Bool.false_and] at hall
          repeat (first | (refine Zh rfl ?_) | refine Zy rfl rfl (by omega) ?_ | refine Zx rfl rfl rfl (by omega) (by omega) ?_ | refine g_dec rfl rfl rfl (by omega) ?_ | refine Zz rfl rfl rfl (by omega) (by omega) ?_ | refine Zad ?_ | refine Zm Tryz.underlying9 rfl rfl ?_)
          refine ZJ (k+1) 2 hlk' hms (Zt [((1,4),(1,4)),((1,10),(1,10))] ⟨rfl,rfl,rfl,rfl,rfl,rfl,rfl,?_,?_,rfl,rfl,rfl,trivial⟩ ⟨⟨rfl,rfl⟩,⟨rfl,rfl⟩,trivial⟩ rfl)
          ·rw [hany];rfl
          ·rw [hall];rfl
        ·refine ZE (by (conv=>lhs;whnf);try rfl) e3 ?_
         rw [hf,e3] at hany hall
         simp only [Bool.or_false,Bool.not_false,Bool.true_or,Bool.and_true] at hany hall
         repeat (first | refine Zy rfl rfl (by omega) ?_ | refine Zx rfl rfl rfl (by omega) (by omega) ?_ | refine g_dec rfl rfl rfl (by omega) ?_ | refine Zz rfl rfl rfl (by omega) (by omega) ?_ | refine Zad ?_ | refine Zm Tryz.underlying9 rfl rfl ?_)
         refine ZJ (k+1) 2 hlk' hms (Zt [((1,4),(1,4)),((1,10),(1,10))] ⟨rfl,rfl,rfl,rfl,rfl,rfl,rfl,?_,?_,rfl,rfl,rfl,trivial⟩ ⟨⟨rfl,rfl⟩,⟨rfl,rfl⟩,trivial⟩ rfl)
         ·rw [hany];rfl
         ·rw [hall];rfl
       ·rw [e2]
        have hf:ZaS G right lv r=false:=by unfold ZaS;rw [decide_eq_true e1,e2];rfl
        rw [hf] at hany hall
        simp only [Bool.or_false,Bool.not_false,Bool.true_or,Bool.and_true] at hany hall
        repeat (first | (refine Zh rfl ?_) | refine Zy rfl rfl (by omega) ?_ | refine Zx rfl rfl rfl (by omega) (by omega) ?_ | refine g_dec rfl rfl rfl (by omega) ?_ | refine Zz rfl rfl rfl (by omega) (by omega) ?_ | refine Zad ?_ | refine Zm Tryz.underlying9 rfl rfl ?_)
        refine ZE (by (conv=>lhs;whnf);try rfl) rfl ?_
        repeat (first | refine Zy rfl rfl (by omega) ?_ | refine Zx rfl rfl rfl (by omega) (by omega) ?_ | refine g_dec rfl rfl rfl (by omega) ?_ | refine Zz rfl rfl rfl (by omega) (by omega) ?_ | refine Zad ?_ | refine Zm Tryz.underlying9 rfl rfl ?_)
        refine ZJ (k+1) 2 hlk' hms (Zt [((1,4),(1,4)),((1,10),(1,10))] ⟨rfl,rfl,rfl,rfl,rfl,rfl,rfl,?_,?_,rfl,rfl,rfl,trivial⟩ ⟨⟨rfl,rfl⟩,⟨rfl,rfl⟩,trivial⟩ rfl)
        ·rw [hany];rfl
        ·rw [hall];rfl
      ·rw [decide_eq_false e1]
       have hf:ZaS G right lv r=false:=by unfold ZaS;rw [decide_eq_false e1];rfl
       rw [hf] at hany hall
       simp only [Bool.or_false,Bool.not_false,Bool.true_or,Bool.and_true] at hany hall
       repeat (first | (refine Zh rfl ?_) | refine Zy rfl rfl (by omega) ?_ | refine Zx rfl rfl rfl (by omega) (by omega) ?_ | refine g_dec rfl rfl rfl (by omega) ?_ | refine Zz rfl rfl rfl (by omega) (by omega) ?_ | refine Zad ?_ | refine Zm Tryz.underlying9 rfl rfl ?_)
       refine ZE (by (conv=>lhs;whnf);try rfl) rfl ?_
       repeat (first | refine Zy rfl rfl (by omega) ?_ | refine Zx rfl rfl rfl (by omega) (by omega) ?_ | refine g_dec rfl rfl rfl (by omega) ?_ | refine Zz rfl rfl rfl (by omega) (by omega) ?_ | refine Zad ?_ | refine Zm Tryz.underlying9 rfl rfl ?_)
       refine ZJ (k+1) 2 hlk' hms (Zt [((1,4),(1,4)),((1,10),(1,10))] ⟨rfl,rfl,rfl,rfl,rfl,rfl,rfl,?_,?_,rfl,rfl,rfl,trivial⟩ ⟨⟨rfl,rfl⟩,⟨rfl,rfl⟩,trivial⟩ rfl)
       ·rw [hany];rfl
       ·rw [hall];rfl
     ·refine ZE (by (conv=>lhs;whnf);try rfl) (decide_eq_false hlk) ?_
      obtain rfl:k=p.rules.length:=by omega
      rw [List.take_length]
      repeat (first | refine Zy rfl rfl (by omega) ?_ | refine Zx rfl rfl rfl (by omega) (by omega) ?_ | refine g_dec rfl rfl rfl (by omega) ?_ | refine Zz rfl rfl rfl (by omega) (by omega) ?_ | refine Zad ?_ | refine Zm Tryz.underlying9 rfl rfl ?_)
      rcases Bool.eq_false_or_eq_true (p.rules.any (ZaS G right lv)) with e5 | e5
      ·refine ZM (by (conv=>lhs;whnf);try rfl) e5 ?_
       rw [if_pos e5] at hno
       repeat (first | refine Zy rfl rfl (by omega) ?_ | refine Zx rfl rfl rfl (by omega) (by omega) ?_ | refine g_dec rfl rfl rfl (by omega) ?_ | refine Zz rfl rfl rfl (by omega) (by omega) ?_ | refine Zad ?_ | refine Zm Tryz.underlying9 rfl rfl ?_)
       exact ZaO rfl rfl (by rw [hno];rfl)
      ·refine ZE (by (conv=>lhs;whnf);try rfl) e5 ?_
       rw [if_neg (by rw [e5];simp)] at hno
       repeat (first | refine Zy rfl rfl (by omega) ?_ | refine Zx rfl rfl rfl (by omega) (by omega) ?_ | refine g_dec rfl rfl rfl (by omega) ?_ | refine Zz rfl rfl rfl (by omega) (by omega) ?_ | refine Zad ?_ | refine Zm Tryz.underlying9 rfl rfl ?_)
       exact ZJ (i+1) 2 ⟨hlt',hno⟩ (by show (Zat t).length - (i+1)<(Zat t).length - i;omega) (Zt [((1,4),(1,4))] ⟨rfl,rfl,rfl,rfl,rfl,rfl,trivial⟩ ⟨⟨rfl,rfl⟩,trivial⟩ rfl)
    ·refine ZE (by (conv=>lhs;whnf);try rfl) (decide_eq_false hlt) ?_
     obtain rfl:i=(Zat t).length:=by omega
     rw [List.drop_length,Ze9] at hno
     repeat (first | refine Zy rfl rfl (by omega) ?_ | refine Zx rfl rfl rfl (by omega) (by omega) ?_ | refine g_dec rfl rfl rfl (by omega) ?_ | refine Zz rfl rfl rfl (by omega) (by omega) ?_ | refine Zad ?_ | refine Zm Tryz.underlying9 rfl rfl ?_)
     exact ZaO rfl rfl (by rw [hno];rfl)
 ·repeat (first | (refine Zf hcv rfl rfl ?_) | (refine Zh rfl ?_) | refine Zy rfl rfl (by omega) ?_ | refine Zx rfl rfl rfl (by omega) (by omega) ?_ | refine g_dec rfl rfl rfl (by omega) ?_ | refine Zz rfl rfl rfl (by omega) (by omega) ?_ | refine Zad ?_ | refine Zm Tryz.underlying9 rfl rfl ?_)
  refine ZM (by (conv=>lhs;whnf);try rfl) rfl ?_
  repeat (first | refine Zy rfl rfl (by omega) ?_ | refine Zx rfl rfl rfl (by omega) (by omega) ?_ | refine g_dec rfl rfl rfl (by omega) ?_ | refine Zz rfl rfl rfl (by omega) (by omega) ?_ | refine Zad ?_ | refine Zm Tryz.underlying9 rfl rfl ?_)
  refine ZaO rfl rfl ?_
  unfold ZsA
  rw [hv]
  rfl
end Go.Proofs.YtjoneoobolnnbaaGreatDoor
