/- One step of a run, whichever it is. No program is named. | strings.Trim at a set of ASCII bytes. | strings.Trim and TrimLeft at the sets that links use. | Three strings. No program is named. -/
import Derived.Test.YtpffimahajgiaaaGreatDoorVV03
import Derived.Test.YtpffimahajgiaaaGreatDoorVV05
import Derived.Test.YtpffimahajgiaaaGreatDoorVV06
import Derived.Test.YtpffimahajgiaaaGreatDoorVV02
import Derived.Lib.AsciiSet
import Derived.Test.YtpffimahajgiaaaGreatDoorVV08
namespace Go.Proofs.YtpffimahajgiaaaGreatDoor
namespace VL
theorem ZaC {p q:Prop} (k:q) (h:q→p:=by
 (intro k)
 (first
  | refine ZB rfl (by (conv=>lhs;whnf);try rfl) ?_
  | refine Zv rfl rfl rfl ?_
  | refine Zc rfl rfl ?_
  | refine Zj rfl (by (conv=>lhs;whnf);try rfl) ?_
  | refine ZJ rfl rfl rfl rfl (by (conv=>lhs;whnf);try rfl) ?_
  | refine ZL rfl rfl rfl rfl (by (conv=>lhs;whnf);try rfl) ?_
  | refine ZN rfl rfl ?_
  | refine g_build_ar rfl rfl ?_
  | refine g_conv rfl rfl ?_
  | refine ZA rfl rfl rfl rfl ?_
  | refine g_shr rfl rfl rfl (by decide) ?_
  | refine ZP rfl rfl ?_
  | refine ZO rfl (by (conv=>lhs;whnf);try rfl) (by (conv=>lhs;whnf);try rfl) (by rfl) ?_
  | refine Zl rfl rfl ?_
  | refine Zm rfl rfl rfl (by (conv=>lhs;whnf);try rfl) (by (conv=>lhs;whnf);try rfl) (by rfl) (by rfl) (Nat.le_of_ble_eq_true rfl) (by (conv=>lhs;whnf);try rfl) ?_
  | refine Zu rfl rfl ?_
  | refine Za rfl rfl rfl (by rfl) (by decide) (by (conv=>lhs;whnf);try rfl) ?_
  | refine Zg rfl rfl rfl ?_
  | refine ZM rfl rfl ?_
  | refine ZC rfl rfl (by (conv=>lhs;whnf);try rfl) ?_
  | refine g_field rfl rfl rfl ?_
  | refine Zn ?_
  | refine Zo (by kernel_rfl) ?_
  | refine Zq ?_
  | refine Zb ?_
  | refine Zf ?_
  | refine Zh ?_
  | refine Zr ?_
  | refine Zi ?_
  | refine Zp ?_
  | refine Zs ?_
  | refine Zy ?_
  | refine Zd ?_
  | refine Zt ?_
  | refine Zz ?_)
 (exact k)):p:=h k
end VL
end Go.Proofs.YtpffimahajgiaaaGreatDoor
namespace Go.Proofs.YtpffimahajgiaaaGreatDoor
open VL Go.RowKit
def Zol (l:List UInt8):List Bool:=(List.range 256).map fun j=>l.contains (UInt8.ofNat j)
def ZeR (l:List UInt8):List PV:=(Zol l).map PV.bool
theorem Zi2 (l:List UInt8):(ZeR l).length=256:=by simp [ZeR,Zol]
theorem Znz (l:List UInt8) (x:UInt8):(ZeR l)[x.toNat]? = some (.bool (l.contains x)):=by
 have hx:x.toNat<256:=x.toNat_lt
 unfold ZeR Zol
 rw [List.getElem?_map,List.getElem?_map,List.getElem?_range hx]
 simp
theorem Zk0 (l:List UInt8) (x:UInt8):Zla false 1 ((ZeR l).drop (x.toNat * 1))=some (.bool (l.contains x)):=by
 show ((ZeR l).drop (x.toNat * 1))[0]? = _
 rw [List.getElem?_drop,Nat.mul_one,Nat.add_zero]
 exact Znz l x
theorem Zom {f:Nat→Option (Gen×VObj)} {t:Nat} {g:Gen} {l:List UInt8} (h:ZaJ f t g=some (.box (ZeR l))) (s:ByteArray):Zfs (frz f) [.str s,.ptr t g 0]=some [.str s,.cel (ZeR l)]:=by
 have e:ZjH f (.ptr t g 0)=some (.cel (ZeR l)):=by
  simp only [ZjH,h,List.drop_zero]
  unfold ZeR
  rw [Zg3]
  rfl
 simp only [Zfs,frz,ZjF,e]
instance:Ar Tryz.prog 216 256 1:=⟨by kernel_rfl⟩
instance:Ze Tryz.prog 216 (List.replicate 256 (.bool false)):=⟨by kernel_rfl⟩
instance:Ld Tryz.prog 216 true 256:=⟨by kernel_rfl⟩
set_option maxRecDepth 100000 in
theorem Zef (l:List UInt8) (x:UInt8):ZH Tryz.prog 196 [.cel (ZeR l),.int .u8 (x.toNat:Int)] (.bool (l.contains x)):=by
 refine Zae mix Tryz.func196 (by kernel_rfl) rfl (by kernel_rfl) ?_
 repeat (first | (refine Zmp rfl rfl ?_) | (refine ZhU rfl rfl rfl x.toNat_lt ?_) | (refine Zv rfl rfl (Zk0 l x) ?_) | refine ZaC ?_)
 exact ZZ rfl rfl rfl
def ZaR (l:List UInt8) (s:ByteArray):ByteArray:=⟨(s.data.toList.dropWhile l.contains).toArray⟩
def ZaS (l:List UInt8) (s:ByteArray):ByteArray:=⟨(s.data.toList.reverse.dropWhile l.contains).reverse.toArray⟩
theorem ZhH {l:List UInt8} {s:ByteArray} (h:¬ 0<s.size):ZaR l s=s:=by
 obtain ⟨⟨d⟩⟩:=s
 cases d with
 | nil=>rfl
 | cons a r=>exact absurd (Nat.succ_pos _) h
theorem Zgd {l:List UInt8} {s:ByteArray} (h:0<s.size) (h1:l.contains (s[0]'h)=false):ZaR l s=s:=by
 obtain ⟨⟨d⟩⟩:=s
 cases d with
 | nil=>exact absurd h (Nat.lt_irrefl 0)
 | cons a r=>
   have h2:l.contains a=false:=h1
   show (⟨(List.dropWhile l.contains (a::r)).toArray⟩:ByteArray)=⟨(a::r).toArray⟩
   rw [List.dropWhile_cons,if_neg (by rw [h2];simp)]
theorem Zge {l:List UInt8} {s:ByteArray} (h:0<s.size) (h1:l.contains (s[0]'h)=true):ZaR l (s.extract 1 s.size)=ZaR l s:=by
 obtain ⟨⟨d⟩⟩:=s
 cases d with
 | nil=>exact absurd h (Nat.lt_irrefl 0)
 | cons a r=>
   have h2:l.contains a=true:=h1
   have e:(⟨(a::r).toArray⟩:ByteArray).extract 1 (a::r).length=⟨(((a::r).drop 1).take ((a::r).length - 1)).toArray⟩:=ByteArray.extract_mk (a::r) 1 (a::r).length
   show ZaR l ((⟨(a::r).toArray⟩:ByteArray).extract 1 (a::r).length)=_
   rw [e]
   show (⟨(List.dropWhile l.contains (((a::r).drop 1).take ((a::r).length - 1))).toArray⟩:ByteArray)=⟨(List.dropWhile l.contains (a::r)).toArray⟩
   rw [List.dropWhile_cons,if_pos h2]
   simp
theorem ZhI {l:List UInt8} {s:ByteArray} (h:¬ 0<s.size):ZaS l s=s:=by
 obtain ⟨⟨d⟩⟩:=s
 cases d with
 | nil=>rfl
 | cons a r=>exact absurd (Nat.succ_pos _) h
theorem Zgf (s:ByteArray) (n:Nat) (hn:s.size=n+1):∃ r:List UInt8,s.data.toList=r ++ [s[n]'(by omega)]∧r.length=n∧s.extract 0 n=⟨r.toArray⟩:=by
 obtain ⟨⟨d⟩⟩:=s
 have hd:d.length=n+1:=hn
 refine ⟨d.take n,?_,by simp;omega,?_⟩
 ·show d=d.take n ++ [d[n]]
  rw [List.take_append_getElem]
  rw [List.take_of_length_le (by omega)]
 ·have e:(⟨d.toArray⟩:ByteArray).extract 0 n=⟨((d.drop 0).take (n - 0)).toArray⟩:=ByteArray.extract_mk d 0 n
  show (⟨d.toArray⟩:ByteArray).extract 0 n=_
  rw [e]
  simp
theorem Zgg {l:List UInt8} {s:ByteArray} {n:Nat} (hn:s.size=n+1) (h1:l.contains (s[n]'(by omega))=false):ZaS l s=s:=by
 obtain ⟨r,e1,_,_⟩:=Zgf s n hn
 unfold ZaS
 rw [e1,List.reverse_append]
 simp only [List.reverse_cons,List.reverse_nil,List.nil_append,List.cons_append,List.dropWhile,h1]
 rw [List.reverse_reverse,← e1]
theorem Zgh {l:List UInt8} {s:ByteArray} {n:Nat} (hn:s.size=n+1) (h1:l.contains (s[n]'(by omega))=true):ZaS l (s.extract 0 n)=ZaS l s:=by
 obtain ⟨r,e1,_,e3⟩:=Zgf s n hn
 unfold ZaS
 rw [e1,e3,List.reverse_append]
 simp only [List.reverse_cons,List.reverse_nil,List.nil_append,List.cons_append,List.dropWhile,h1]
set_option maxRecDepth 100000 in
theorem Zix (l:List UInt8) (s:ByteArray):ZH Tryz.prog 151 [.str s,.cel (ZeR l)] (.str (ZaR l s)):=by
 refine Zae mix Tryz.func151 (by kernel_rfl) rfl (by kernel_rfl) ?_
 repeat (first | refine ZaC ?_)
 refine Zah (α:=ByteArray) (fun c _=>mkS [(0,.str c),(1,.cel (ZeR l))] [] 2) (fun c=>ZaR l c=ZaR l s) (fun c=>c.size) s 2 rfl (ZV [] ⟨rfl,rfl,trivial⟩ trivial rfl) (fun c _ (hno:ZaR l c=ZaR l s)=>?_)
 repeat (first | refine ZaC ?_ | refine Zk Tryz.underlying9 rfl rfl ?_)
 by_cases hz:(0:Int)<(c.size:Int)
 ·refine ZE (by (conv=>lhs;whnf);try rfl) (decide_eq_true hz) ?_
  have hz':0<c.size:=by omega
  have h0:c[0]? = some (c[0]'hz'):=getElem?_pos c 0 hz'
  repeat (first | (refine Za5 Tryz.underlying9 rfl rfl rfl h0 ?_) | (refine Zeg (Zef l _) rfl rfl rfl ?_) | refine ZaC ?_)
  rcases Bool.eq_false_or_eq_true (l.contains (c[0]'hz')) with hb | hb
  ·refine ZF (by (conv=>lhs;whnf);try rfl) (by rw [hb];rfl) ?_
   repeat (first | (refine ZbI Tryz.underlying9 rfl rfl rfl rfl (by omega) (by omega) rfl ?_) | refine ZaC ?_)
   refine Zab (c.extract 1 c.size) 2 ((Zge hz' hb).trans hno) ?_ (ZV [] ⟨rfl,rfl,trivial⟩ trivial rfl)
   show (c.extract 1 c.size).size<c.size
   rw [ByteArray.size_extract]
   omega
  ·refine ZE (by (conv=>lhs;whnf);try rfl) (by rw [hb];rfl) ?_
   repeat (first | refine ZaC ?_)
   exact ZZ rfl rfl (by rw [← hno,Zgd hz' hb];rfl)
 ·refine ZF (by (conv=>lhs;whnf);try rfl) (decide_eq_false hz) ?_
  repeat (first | refine ZaC ?_)
  exact ZZ rfl rfl (by rw [← hno,ZhH (by omega)];rfl)
set_option maxRecDepth 100000 in
theorem ZhJ (l:List UInt8) (s:ByteArray) (hs:s.size≤9223372036854775807):ZH Tryz.prog 181 [.str s,.cel (ZeR l)] (.str (ZaS l s)):=by
 refine Zae mix Tryz.func181 (by kernel_rfl) rfl (by kernel_rfl) ?_
 repeat (first | refine ZaC ?_)
 refine Zah (α:=ByteArray) (fun c _=>mkS [(0,.str c),(1,.cel (ZeR l))] [] 2) (fun c=>ZaS l c=ZaS l s∧c.size≤9223372036854775807) (fun c=>c.size) s 2 ⟨rfl,hs⟩ (ZV [] ⟨rfl,rfl,trivial⟩ trivial rfl) (fun c _ hJ=>?_)
 obtain ⟨(hno:ZaS l c=ZaS l s),(hcs:c.size≤9223372036854775807)⟩:=hJ
 repeat (first | refine ZaC ?_ | refine Zk Tryz.underlying9 rfl rfl ?_)
 by_cases hz:(0:Int)<(c.size:Int)
 ·refine ZE (by (conv=>lhs;whnf);try rfl) (decide_eq_true hz) ?_
  obtain ⟨n,hn⟩:∃ n,c.size=n+1:=⟨c.size - 1,by omega⟩
  have e1:(c.size:Int) - 1=(n:Int):=by omega
  have h0:c[n]? = some (c[n]'(by omega)):=getElem?_pos c n (by omega)
  have h2:toNat? (PV.int .i64 ((c.size:Int) - 1))=some n:=by rw [e1];exact ZcJ
  repeat (first | (refine Za5 Tryz.underlying9 rfl rfl (congrArg (PV.int .i64) e1) h0 ?_) | (refine Zeg (Zef l _) rfl rfl rfl ?_) | refine Zw rfl rfl rfl (by omega) (by omega) ?_ | refine ZaC ?_ | refine Zk Tryz.underlying9 rfl rfl ?_)
  rcases Bool.eq_false_or_eq_true (l.contains (c[n]'(by omega))) with hb | hb
  ·refine ZF (by (conv=>lhs;whnf);try rfl) (by rw [hb];rfl) ?_
   repeat (first | (refine ZbI Tryz.underlying9 rfl rfl rfl h2 (by omega) (by omega) rfl ?_) | refine Zw rfl rfl rfl (by omega) (by omega) ?_ | refine ZaC ?_ | refine Zk Tryz.underlying9 rfl rfl ?_)
   refine Zab (c.extract 0 n) 2 ⟨(Zgh hn hb).trans hno,?_⟩ ?_ (ZV [] ⟨rfl,rfl,trivial⟩ trivial rfl)
   ·show (c.extract 0 n).size≤_
    rw [ByteArray.size_extract]
    omega
   ·show (c.extract 0 n).size<c.size
    rw [ByteArray.size_extract]
    omega
  ·refine ZE (by (conv=>lhs;whnf);try rfl) (by rw [hb];rfl) ?_
   repeat (first | refine ZaC ?_)
   exact ZZ rfl rfl (by rw [← hno,Zgg hn hb];rfl)
 ·refine ZF (by (conv=>lhs;whnf);try rfl) (decide_eq_false hz) ?_
  repeat (first | refine ZaC ?_)
  exact ZZ rfl rfl (by rw [← hno,ZhI (by omega)];rfl)
theorem ZgO (l:List UInt8):(Lib.setCells l).toList=(Zol l).map Value.bool:=by
 rw [Lib.setCells_eq]
 simp [Zol]
set_option maxRecDepth 1000000 in
theorem Zk1 (l:List UInt8) (hs:l.length<4294967281) (hl:∀ (j:Nat) b,l[j]? = some b→b.toNat<128):ZH Tryz.prog 150 [.str ⟨l.toArray⟩] (.tup [.agg (ZeR l),.bool true]):=
 Zal (vals:=[.string ⟨l.toArray⟩]) (v:=.tuple #[.agg (Lib.setCells l),.bool true]) (by kernel_rfl) rfl (by
   show (PV.dry2 (.agg (ZeR l))&&(PV.dry2 (.bool true)&&true))=true
   have:(ZeR l).all PV.dry1=true:=by
    rw [List.all_eq_true]
    intro p hp
    obtain ⟨b,_,rfl⟩:=List.mem_map.1 hp
    rfl
   show ((ZeR l).all PV.dry1&&_)=true
   rw [this]
   rfl)
  (fun x=>.tup _ _ rfl fun i p v hp hv=>by
   match i,hp,hv with
   | 0,hp,hv=>
     injection hp with hp
     injection hv with hv
     subst hp hv
     refine .agg _ _ (by rw [Zi2,Lib.setCells_size]) fun j q w hq hw=>?_
     rw [← Array.getElem?_toList,ZgO,List.getElem?_map,Option.map_eq_some_iff] at hw
     obtain ⟨b,hb,rfl⟩:=hw
     unfold ZeR at hq
     rw [List.getElem?_map,hb] at hq
     injection hq with hq
     subst hq
     exact .bool b
   | 1,hp,hv=>injection hp with hp;injection hv with hv;subst hp hv;exact .bool _
   | i+2,hp,_=>simp at hp)
  fun w _=>(Tryz.strings_makeASCIISet (fun w=>Tryz.zeroValue216 w) ⟨l.toArray⟩ w hs (fun j b h=>hl j b (by simpa using h))).mono fun e w' ⟨e1,e2⟩=>by
   have e3:(⟨l.toArray⟩:ByteArray).data.toList=l:=by simp
   rw [e3] at e1 e2
   exact ⟨e1,by rw [e2];exact Below.al (Below.refl _ _) _⟩
def blankL:List UInt8:=[32,9]
set_option maxHeartbeats 4000000 in
set_option maxRecDepth 1000000 in
theorem Zon (s:ByteArray) (hs:s.size≤9223372036854775807):ZH Tryz.prog 120 [.str s,.str ⟨#[32,9]⟩] (.str (ZaR blankL (ZaS blankL s))):=by
 have hm:=Zk1 blankL (by decide) (fun j b h=>by
  match j,h with
  | 0,h=>injection h with h;subst h;decide
  | 1,h=>injection h with h;subst h;decide
  | j+2,h=>simp [blankL] at h)
 have hR:=ZhJ blankL s hs
 have hL:=Zix blankL (ZaS blankL s)
 have ha:∀ {f:Nat→Option (Gen×VObj)} {t:Nat} {g:Gen},ZaJ f t g=some (.box (ZeR blankL))→∀ s,Zfs (frz f) [.str s,.ptr t g 0]=some [.str s,.cel (ZeR blankL)]:=fun h s=>Zom h s
 have hspc:(ZeR blankL).all PV.cell=true:=by
  rw [List.all_eq_true]
  intro p hp
  obtain ⟨b,_,rfl⟩:=List.mem_map.1 hp
  rfl
 have hsl:(ZeR blankL).length=256:=Zi2 _
 have hrc:(List.replicate 256 (PV.bool false)).all PV.cell=true:=by
  rw [List.all_eq_true]
  intro p hp
  rw [List.eq_of_mem_replicate hp]
  rfl
 have hrl:(List.replicate 256 (PV.bool false)).length=256:=List.length_replicate
 generalize ZeR blankL=sp at hm hR hL ha hspc hsl
 generalize hz:List.replicate 256 (PV.bool false)=zp at hrc hrl
 have zi:Ze Tryz.prog 216 zp:=hz ▸ inferInstance
 refine Zae mix Tryz.func120 (by kernel_rfl) rfl (by kernel_rfl) ?_
 repeat (first | refine ZaC ?_)
 by_cases h0:s=⟨#[]⟩
 ·rw [decide_eq_true h0]
  repeat (first | (refine ZY rfl ?_) | refine ZaC ?_)
  refine ZE (by (conv=>lhs;whnf);try rfl) rfl ?_
  repeat (first | refine ZaC ?_)
  exact ZZ rfl rfl (by rw [h0];rfl)
 rw [decide_eq_false h0]
 repeat (first | refine ZaC ?_)
 refine ZF (by (conv=>lhs;whnf);try rfl) (by decide) ?_
 repeat (first | (refine ZY rfl ?_) | (refine ZF rfl rfl ?_) | (refine Zag hm rfl rfl ?_) | (refine Zl (z:=zp) rfl hrc ?_) | (refine Zm (ps:=sp) (cs:=zp) (cs':=sp) rfl rfl rfl rfl rfl hsl hspc (show 0+256≤zp.length by omega) (Zi7 (show zp.length=sp.length by omega)) ?_) | (refine ZE rfl rfl ?_) | (refine Zeg hR rfl (ha rfl _) rfl ?_) | (refine Zeg hL rfl (ha rfl _) rfl ?_) | refine ZaC ?_ | refine Zk Tryz.underlying9 rfl rfl ?_)
 exact ZZ rfl rfl rfl
end Go.Proofs.YtpffimahajgiaaaGreatDoor

