/- strings.Trim at a set of ASCII bytes. | strings.ContainsAny at two bytes; what a list is from a place on. | trcref13: Levels, May. | May, as the others are written. | Functions of the library whose contracts are proved by hand or lie on the shelf, written as the others are. -/
import Derived.Test.YtjoneoobolnnbaaGreatDoorCF06
import Derived.Test.YtjoneoobolnnbaaGreatDoorCF10
import Derived.Test.YtjoneoobolnnbaaGreatDoorCF03
import Derived.Lib.AsciiSet
import Derived.Lib.IndexAny
import Derived.Lib.SplitLaws
import Derived.Lib.OwnBridge
namespace Go.Proofs.YtjoneoobolnnbaaGreatDoor
open VL Go.RowKit
def Zvl (l:List UInt8):List Bool:=(List.range 256).map fun j=>l.contains (UInt8.ofNat j)
def ZiL (l:List UInt8):List PV:=(Zvl l).map PV.bool
theorem Zoj (l:List UInt8):(ZiL l).length=256:=by simp [ZiL,Zvl]
theorem ZtN (l:List UInt8) (x:UInt8):(ZiL l)[x.toNat]? = some (.bool (l.contains x)):=by
 have hx:x.toNat<256:=x.toNat_lt
 unfold ZiL Zvl
 rw [List.getElem?_map,List.getElem?_map,List.getElem?_range hx]
 simp
theorem ZpX (l:List UInt8) (x:UInt8):ZnH false 1 ((ZiL l).drop (x.toNat * 1))=some (.bool (l.contains x)):=by
 show ((ZiL l).drop (x.toNat * 1))[0]? = _
 rw [List.getElem?_drop,Nat.mul_one,Nat.add_zero]
 exact ZtN l x
theorem Zvm {f:Nat→Option (Gen×VObj)} {t:Nat} {g:Gen} {l:List UInt8} (h:Zbt f t g=some (.box (ZiL l))) (s:ByteArray):Zg0 (frz f) [.str s,.ptr t g 0]=some [.str s,.cel (ZiL l)]:=by
 have e:Zm7 f (.ptr t g 0)=some (.cel (ZiL l)):=by
  simp only [Zm7,h,List.drop_zero]
  unfold ZiL
  rw [ZmR]
  rfl
 simp only [Zg0,frz,Znu,e]
instance:Ar Tryz.prog 275 256 1:=⟨by kernel_rfl⟩
instance:Ze Tryz.prog 275 (List.replicate 256 (.bool false)):=⟨by kernel_rfl⟩
instance:Ld Tryz.prog 275 true 256:=⟨by kernel_rfl⟩
set_option maxRecDepth 100000 in
theorem Zhk (l:List UInt8) (x:UInt8):Zb Tryz.prog 272 [.cel (ZiL l),.int .u8 (x.toNat:Int)] (.bool (l.contains x)):=by
 refine Za6 mix Tryz.func272 (by kernel_rfl) rfl (by kernel_rfl) ?_
 repeat (first | (refine ZoU rfl rfl ?_) | (refine Zn2 rfl rfl rfl x.toNat_lt ?_) | (refine ZkR rfl rfl (ZpX l x) ?_) | refine Zy rfl rfl (by omega) ?_ | refine Zx rfl rfl rfl (by omega) (by omega) ?_ | refine g_dec rfl rfl rfl (by omega) ?_ | refine Zz rfl rfl rfl (by omega) (by omega) ?_ | refine Zad ?_ | refine Zm Tryz.underlying9 rfl rfl ?_)
 exact ZaO rfl rfl rfl
def Zfv (l:List UInt8) (s:ByteArray):ByteArray:=⟨(s.data.toList.dropWhile l.contains).toArray⟩
def Zea (l:List UInt8) (s:ByteArray):ByteArray:=⟨(s.data.toList.reverse.dropWhile l.contains).reverse.toArray⟩
theorem ZpY {l:List UInt8} {s:ByteArray} (h:¬ 0<s.size):Zfv l s=s:=by
 obtain ⟨⟨d⟩⟩:=s
 cases d with
 | nil=>rfl
 | cons a r=>exact absurd (Nat.succ_pos _) h
theorem Zo4 {l:List UInt8} {s:ByteArray} (h:0<s.size) (h1:l.contains (s[0]'h)=false):Zfv l s=s:=by
 obtain ⟨⟨d⟩⟩:=s
 cases d with
 | nil=>exact absurd h (Nat.lt_irrefl 0)
 | cons a r=>
   have h2:l.contains a=false:=h1
   show (⟨(List.dropWhile l.contains (a::r)).toArray⟩:ByteArray)=⟨(a::r).toArray⟩
   rw [List.dropWhile_cons,if_neg (by rw [h2];simp)]
theorem Zo5 {l:List UInt8} {s:ByteArray} (h:0<s.size) (h1:l.contains (s[0]'h)=true):Zfv l (s.extract 1 s.size)=Zfv l s:=by
 obtain ⟨⟨d⟩⟩:=s
 cases d with
 | nil=>exact absurd h (Nat.lt_irrefl 0)
 | cons a r=>
   have h2:l.contains a=true:=h1
   have e:(⟨(a::r).toArray⟩:ByteArray).extract 1 (a::r).length=⟨(((a::r).drop 1).take ((a::r).length - 1)).toArray⟩:=ByteArray.extract_mk (a::r) 1 (a::r).length
   show Zfv l ((⟨(a::r).toArray⟩:ByteArray).extract 1 (a::r).length)=_
   rw [e]
   show (⟨(List.dropWhile l.contains (((a::r).drop 1).take ((a::r).length - 1))).toArray⟩:ByteArray)=⟨(List.dropWhile l.contains (a::r)).toArray⟩
   rw [List.dropWhile_cons,if_pos h2]
   simp
theorem ZpZ {l:List UInt8} {s:ByteArray} (h:¬ 0<s.size):Zea l s=s:=by
 obtain ⟨⟨d⟩⟩:=s
 cases d with
 | nil=>rfl
 | cons a r=>exact absurd (Nat.succ_pos _) h
theorem Zkz (s:ByteArray) (n:Nat) (hn:s.size=n+1):∃ r:List UInt8,s.data.toList=r ++ [s[n]'(by omega)]∧r.length=n∧s.extract 0 n=⟨r.toArray⟩:=by
 obtain ⟨⟨d⟩⟩:=s
 have hd:d.length=n+1:=hn
 refine ⟨d.take n,?_,by simp;omega,?_⟩
 ·show d=d.take n ++ [d[n]]
  rw [List.take_append_getElem]
  rw [List.take_of_length_le (by omega)]
 ·have e:(⟨d.toArray⟩:ByteArray).extract 0 n=⟨((d.drop 0).take (n - 0)).toArray⟩:=ByteArray.extract_mk d 0 n
  show (⟨d.toArray⟩:ByteArray).extract 0 n=_
  rw [e]
  simp
theorem Zo6 {l:List UInt8} {s:ByteArray} {n:Nat} (hn:s.size=n+1) (h1:l.contains (s[n]'(by omega))=false):Zea l s=s:=by
 obtain ⟨r,e1,_,_⟩:=Zkz s n hn
 unfold Zea
 rw [e1,List.reverse_append]
 simp only [List.reverse_cons,List.reverse_nil,List.nil_append,List.cons_append,List.dropWhile,h1]
 rw [List.reverse_reverse,← e1]
theorem Zo7 {l:List UInt8} {s:ByteArray} {n:Nat} (hn:s.size=n+1) (h1:l.contains (s[n]'(by omega))=true):Zea l (s.extract 0 n)=Zea l s:=by
 obtain ⟨r,e1,_,e3⟩:=Zkz s n hn
 unfold Zea
 rw [e1,e3,List.reverse_append]
 simp only [List.reverse_cons,List.reverse_nil,List.nil_append,List.cons_append,List.dropWhile,h1]
set_option maxRecDepth 100000 in
theorem Zm9 (l:List UInt8) (s:ByteArray):Zb Tryz.prog 266 [.str s,.cel (ZiL l)] (.str (Zfv l s)):=by
 refine Za6 mix Tryz.func266 (by kernel_rfl) rfl (by kernel_rfl) ?_
 repeat (first | refine Zy rfl rfl (by omega) ?_ | refine Zx rfl rfl rfl (by omega) (by omega) ?_ | refine g_dec rfl rfl rfl (by omega) ?_ | refine Zz rfl rfl rfl (by omega) (by omega) ?_ | refine Zad ?_ | refine Zm Tryz.underlying9 rfl rfl ?_)
 refine Zl (α:=ByteArray) (fun c _=>mkS [(0,.str c),(1,.cel (ZiL l))] [] 2) (fun c=>Zfv l c=Zfv l s) (fun c=>c.size) s 2 rfl (Zt [] ⟨rfl,rfl,trivial⟩ trivial rfl) (fun c _ (hno:Zfv l c=Zfv l s)=>?_)
 repeat (first | refine Zy rfl rfl (by omega) ?_ | refine Zx rfl rfl rfl (by omega) (by omega) ?_ | refine g_dec rfl rfl rfl (by omega) ?_ | refine Zz rfl rfl rfl (by omega) (by omega) ?_ | refine Zad ?_ | refine Zm Tryz.underlying9 rfl rfl ?_)
 by_cases hz:(0:Int)<(c.size:Int)
 ·refine ZM (by (conv=>lhs;whnf);try rfl) (decide_eq_true hz) ?_
  have hz':0<c.size:=by omega
  have h0:c[0]? = some (c[0]'hz'):=getElem?_pos c 0 hz'
  repeat (first | (refine ZdA Tryz.underlying9 rfl rfl rfl h0 ?_) | (refine Zej (Zhk l _) rfl rfl rfl ?_) | refine Zy rfl rfl (by omega) ?_ | refine Zx rfl rfl rfl (by omega) (by omega) ?_ | refine g_dec rfl rfl rfl (by omega) ?_ | refine Zz rfl rfl rfl (by omega) (by omega) ?_ | refine Zad ?_ | refine Zm Tryz.underlying9 rfl rfl ?_)
  rcases Bool.eq_false_or_eq_true (l.contains (c[0]'hz')) with hb | hb
  ·refine ZE (by (conv=>lhs;whnf);try rfl) (by rw [hb];rfl) ?_
   repeat (first | (refine Zll Tryz.underlying9 rfl rfl rfl rfl (by omega) (by omega) rfl ?_) | refine Zy rfl rfl (by omega) ?_ | refine Zx rfl rfl rfl (by omega) (by omega) ?_ | refine g_dec rfl rfl rfl (by omega) ?_ | refine Zz rfl rfl rfl (by omega) (by omega) ?_ | refine Zad ?_ | refine Zm Tryz.underlying9 rfl rfl ?_)
   refine ZJ (c.extract 1 c.size) 2 ((Zo5 hz' hb).trans hno) ?_ (Zt [] ⟨rfl,rfl,trivial⟩ trivial rfl)
   show (c.extract 1 c.size).size<c.size
   rw [ByteArray.size_extract]
   omega
  ·refine ZM (by (conv=>lhs;whnf);try rfl) (by rw [hb];rfl) ?_
   repeat (first | refine Zy rfl rfl (by omega) ?_ | refine Zx rfl rfl rfl (by omega) (by omega) ?_ | refine g_dec rfl rfl rfl (by omega) ?_ | refine Zz rfl rfl rfl (by omega) (by omega) ?_ | refine Zad ?_ | refine Zm Tryz.underlying9 rfl rfl ?_)
   exact ZaO rfl rfl (by rw [← hno,Zo4 hz' hb];rfl)
 ·refine ZE (by (conv=>lhs;whnf);try rfl) (decide_eq_false hz) ?_
  repeat (first | refine Zy rfl rfl (by omega) ?_ | refine Zx rfl rfl rfl (by omega) (by omega) ?_ | refine g_dec rfl rfl rfl (by omega) ?_ | refine Zz rfl rfl rfl (by omega) (by omega) ?_ | refine Zad ?_ | refine Zm Tryz.underlying9 rfl rfl ?_)
  exact ZaO rfl rfl (by rw [← hno,ZpY (by omega)];rfl)
set_option maxRecDepth 100000 in
theorem Zmb (l:List UInt8) (s:ByteArray) (hs:s.size≤9223372036854775807):Zb Tryz.prog 267 [.str s,.cel (ZiL l)] (.str (Zea l s)):=by
 refine Za6 mix Tryz.func267 (by kernel_rfl) rfl (by kernel_rfl) ?_
 repeat (first | refine Zy rfl rfl (by omega) ?_ | refine Zx rfl rfl rfl (by omega) (by omega) ?_ | refine g_dec rfl rfl rfl (by omega) ?_ | refine Zz rfl rfl rfl (by omega) (by omega) ?_ | refine Zad ?_ | refine Zm Tryz.underlying9 rfl rfl ?_)
 refine Zl (α:=ByteArray) (fun c _=>mkS [(0,.str c),(1,.cel (ZiL l))] [] 2) (fun c=>Zea l c=Zea l s∧c.size≤9223372036854775807) (fun c=>c.size) s 2 ⟨rfl,hs⟩ (Zt [] ⟨rfl,rfl,trivial⟩ trivial rfl) (fun c _ hJ=>?_)
 obtain ⟨(hno:Zea l c=Zea l s),(hcs:c.size≤9223372036854775807)⟩:=hJ
 repeat (first | refine Zy rfl rfl (by omega) ?_ | refine Zx rfl rfl rfl (by omega) (by omega) ?_ | refine g_dec rfl rfl rfl (by omega) ?_ | refine Zz rfl rfl rfl (by omega) (by omega) ?_ | refine Zad ?_ | refine Zm Tryz.underlying9 rfl rfl ?_)
 by_cases hz:(0:Int)<(c.size:Int)
 ·refine ZM (by (conv=>lhs;whnf);try rfl) (decide_eq_true hz) ?_
  obtain ⟨n,hn⟩:∃ n,c.size=n+1:=⟨c.size - 1,by omega⟩
  have e1:(c.size:Int) - 1=(n:Int):=by omega
  have h0:c[n]? = some (c[n]'(by omega)):=getElem?_pos c n (by omega)
  have h2:toNat? (PV.int .i64 ((c.size:Int) - 1))=some n:=by rw [e1];exact Zgu
  repeat (first | (refine ZdA Tryz.underlying9 rfl rfl (congrArg (PV.int .i64) e1) h0 ?_) | (refine Zej (Zhk l _) rfl rfl rfl ?_) | refine Zy rfl rfl (by omega) ?_ | refine Zx rfl rfl rfl (by omega) (by omega) ?_ | refine g_dec rfl rfl rfl (by omega) ?_ | refine Zz rfl rfl rfl (by omega) (by omega) ?_ | refine Zad ?_ | refine Zm Tryz.underlying9 rfl rfl ?_)
  rcases Bool.eq_false_or_eq_true (l.contains (c[n]'(by omega))) with hb | hb
  ·refine ZE (by (conv=>lhs;whnf);try rfl) (by rw [hb];rfl) ?_
   repeat (first | (refine Zll Tryz.underlying9 rfl rfl rfl h2 (by omega) (by omega) rfl ?_) | refine Zy rfl rfl (by omega) ?_ | refine Zx rfl rfl rfl (by omega) (by omega) ?_ | refine g_dec rfl rfl rfl (by omega) ?_ | refine Zz rfl rfl rfl (by omega) (by omega) ?_ | refine Zad ?_ | refine Zm Tryz.underlying9 rfl rfl ?_)
   refine ZJ (c.extract 0 n) 2 ⟨(Zo7 hn hb).trans hno,?_⟩ ?_ (Zt [] ⟨rfl,rfl,trivial⟩ trivial rfl)
   ·show (c.extract 0 n).size≤_
    rw [ByteArray.size_extract]
    omega
   ·show (c.extract 0 n).size<c.size
    rw [ByteArray.size_extract]
    omega
  ·refine ZM (by (conv=>lhs;whnf);try rfl) (by rw [hb];rfl) ?_
   repeat (first | refine Zy rfl rfl (by omega) ?_ | refine Zx rfl rfl rfl (by omega) (by omega) ?_ | refine g_dec rfl rfl rfl (by omega) ?_ | refine Zz rfl rfl rfl (by omega) (by omega) ?_ | refine Zad ?_ | refine Zm Tryz.underlying9 rfl rfl ?_)
   exact ZaO rfl rfl (by rw [← hno,Zo6 hn hb];rfl)
 ·refine ZE (by (conv=>lhs;whnf);try rfl) (decide_eq_false hz) ?_
  repeat (first | refine Zy rfl rfl (by omega) ?_ | refine Zx rfl rfl rfl (by omega) (by omega) ?_ | refine g_dec rfl rfl rfl (by omega) ?_ | refine Zz rfl rfl rfl (by omega) (by omega) ?_ | refine Zad ?_ | refine Zm Tryz.underlying9 rfl rfl ?_)
  exact ZaO rfl rfl (by rw [← hno,ZpZ (by omega)];rfl)
theorem Zk3 (l:List UInt8):(Lib.setCells l).toList=(Zvl l).map Value.bool:=by
 rw [Lib.setCells_eq]
 simp [Zvl]
set_option maxRecDepth 1000000 in
theorem Zp0 (l:List UInt8) (hs:l.length<4294967281) (hl:∀ (j:Nat) b,l[j]? = some b→b.toNat<128):Zb Tryz.prog 265 [.str ⟨l.toArray⟩] (.tup [.agg (ZiL l),.bool true]):=
 Zak (vals:=[.string ⟨l.toArray⟩]) (v:=.tuple #[.agg (Lib.setCells l),.bool true]) (by kernel_rfl) rfl (by
   show (PV.dry2 (.agg (ZiL l))&&(PV.dry2 (.bool true)&&true))=true
   have:(ZiL l).all PV.dry1=true:=by
    rw [List.all_eq_true]
    intro p hp
    obtain ⟨b,_,rfl⟩:=List.mem_map.1 hp
    rfl
   show ((ZiL l).all PV.dry1&&_)=true
   rw [this]
   rfl)
  (fun x=>.tup _ _ rfl fun i p v hp hv=>by
   match i,hp,hv with
   | 0,hp,hv=>
     injection hp with hp
     injection hv with hv
     subst hp hv
     refine .agg _ _ (by rw [Zoj,Lib.setCells_size]) fun j q w hq hw=>?_
     rw [← Array.getElem?_toList,Zk3,List.getElem?_map,Option.map_eq_some_iff] at hw
     obtain ⟨b,hb,rfl⟩:=hw
     unfold ZiL at hq
     rw [List.getElem?_map,hb] at hq
     injection hq with hq
     subst hq
     exact .bool b
   | 1,hp,hv=>injection hp with hp;injection hv with hv;subst hp hv;exact .bool _
   | i+2,hp,_=>simp at hp)
  fun w _=>(Tryz.strings_makeASCIISet (fun w=>Tryz.zeroValue275 w) ⟨l.toArray⟩ w hs (fun j b h=>hl j b (by simpa using h))).mono fun e w' ⟨e1,e2⟩=>by
   have e3:(⟨l.toArray⟩:ByteArray).data.toList=l:=by simp
   rw [e3] at e1 e2
   exact ⟨e1,by rw [e2];exact Below.al (Below.refl _ _) _⟩
def Zeb:List UInt8:=[32,9]
set_option maxHeartbeats 4000000 in
set_option maxRecDepth 1000000 in
theorem Zvn (s:ByteArray) (hs:s.size≤9223372036854775807):Zb Tryz.prog 237 [.str s,.str ⟨#[32,9]⟩] (.str (Zfv Zeb (Zea Zeb s))):=by
 have hm:=Zp0 Zeb (by decide) (fun j b h=>by
  match j,h with
  | 0,h=>injection h with h;subst h;decide
  | 1,h=>injection h with h;subst h;decide
  | j+2,h=>simp [Zeb] at h)
 have hR:=Zmb Zeb s hs
 have hL:=Zm9 Zeb (Zea Zeb s)
 have ha:∀ {f:Nat→Option (Gen×VObj)} {t:Nat} {g:Gen},Zbt f t g=some (.box (ZiL Zeb))→∀ s,Zg0 (frz f) [.str s,.ptr t g 0]=some [.str s,.cel (ZiL Zeb)]:=fun h s=>Zvm h s
 have hspc:(ZiL Zeb).all PV.cell=true:=by
  rw [List.all_eq_true]
  intro p hp
  obtain ⟨b,_,rfl⟩:=List.mem_map.1 hp
  rfl
 have hsl:(ZiL Zeb).length=256:=Zoj _
 have hrc:(List.replicate 256 (PV.bool false)).all PV.cell=true:=by
  rw [List.all_eq_true]
  intro p hp
  rw [List.eq_of_mem_replicate hp]
  rfl
 have hrl:(List.replicate 256 (PV.bool false)).length=256:=List.length_replicate
 generalize ZiL Zeb=sp at hm hR hL ha hspc hsl
 generalize hz:List.replicate 256 (PV.bool false)=zp at hrc hrl
 have zi:Ze Tryz.prog 275 zp:=hz ▸ inferInstance
 refine Za6 mix Tryz.func237 (by kernel_rfl) rfl (by kernel_rfl) ?_
 repeat (first | refine Zy rfl rfl (by omega) ?_ | refine Zx rfl rfl rfl (by omega) (by omega) ?_ | refine g_dec rfl rfl rfl (by omega) ?_ | refine Zz rfl rfl rfl (by omega) (by omega) ?_ | refine Zad ?_ | refine Zm Tryz.underlying9 rfl rfl ?_)
 by_cases h0:s=⟨#[]⟩
 ·rw [decide_eq_true h0]
  repeat (first | (refine Zh rfl ?_) | refine Zy rfl rfl (by omega) ?_ | refine Zx rfl rfl rfl (by omega) (by omega) ?_ | refine g_dec rfl rfl rfl (by omega) ?_ | refine Zz rfl rfl rfl (by omega) (by omega) ?_ | refine Zad ?_ | refine Zm Tryz.underlying9 rfl rfl ?_)
  refine ZM (by (conv=>lhs;whnf);try rfl) rfl ?_
  repeat (first | refine Zy rfl rfl (by omega) ?_ | refine Zx rfl rfl rfl (by omega) (by omega) ?_ | refine g_dec rfl rfl rfl (by omega) ?_ | refine Zz rfl rfl rfl (by omega) (by omega) ?_ | refine Zad ?_ | refine Zm Tryz.underlying9 rfl rfl ?_)
  exact ZaO rfl rfl (by rw [h0];rfl)
 rw [decide_eq_false h0]
 repeat (first | refine Zy rfl rfl (by omega) ?_ | refine Zx rfl rfl rfl (by omega) (by omega) ?_ | refine g_dec rfl rfl rfl (by omega) ?_ | refine Zz rfl rfl rfl (by omega) (by omega) ?_ | refine Zad ?_ | refine Zm Tryz.underlying9 rfl rfl ?_)
 refine ZE (by (conv=>lhs;whnf);try rfl) (by decide) ?_
 repeat (first | (refine Zh rfl ?_) | (refine ZE rfl rfl ?_) | (refine Zf hm rfl rfl ?_) | (refine ZjB (z:=zp) rfl hrc ?_) | (refine ZjC (ps:=sp) (cs:=zp) (cs':=sp) rfl rfl rfl rfl rfl hsl hspc (show 0+256≤zp.length by omega) (ZpN (show zp.length=sp.length by omega)) ?_) | (refine ZM rfl rfl ?_) | (refine Zej hR rfl (ha rfl _) rfl ?_) | (refine Zej hL rfl (ha rfl _) rfl ?_) | refine Zy rfl rfl (by omega) ?_ | refine Zx rfl rfl rfl (by omega) (by omega) ?_ | refine g_dec rfl rfl rfl (by omega) ?_ | refine Zz rfl rfl rfl (by omega) (by omega) ?_ | refine Zad ?_ | refine Zm Tryz.underlying9 rfl rfl ?_)
 exact ZaO rfl rfl rfl
def ZtD (s:ByteArray):Prop:=∀ (j:Nat) (b:UInt8),s.data.toList[j]? = some b→b.toNat<128
theorem ZlR (s:ByteArray) (hs:s.size<4294967281) (ha:ZtD s):Zb Tryz.prog 249 [.str s,.str ⟨#[10,124]⟩] (.bool (Lib.containsAny s.data.toList [10,124])):=
 Zak (vals:=[.string s,.string ⟨#[10,124]⟩]) (by kernel_rfl) rfl rfl (fun x=>.bool _) fun w _=>Tryz.strings_ContainsAny_laid s ⟨#[10,124]⟩ w hs (by decide) ha (fun j b h=>by
  match j,h with
  | 0,h=>injection h with h;subst h;decide
  | 1,h=>injection h with h;subst h;decide
  | j+2,h=>simp at h)
end Go.Proofs.YtjoneoobolnnbaaGreatDoor

set_option linter.unusedVariables false
namespace Go.Proofs.YtjoneoobolnnbaaGreatDoor
open VL
def ZeF (p:Policy) (G:List ByteArray) (right:Int) (t:Title):Option Bool:=if p.rules.length≤1000000 then some (ZsA p G right t) else none
theorem Zit (p:Policy) (G:List ByteArray) (right:Int) (t:Title) (r:Bool) (h:ZeF p G right t=some r):Zb Tryz.prog 59 [p.pv,.sl (List.map csS G),.int .i64 right,t.pv] (.bool r):=by
 unfold ZeF at h
 split at h
 ·cases h;exact ZwL p G right t (by assumption)
 ·cases h
end Go.Proofs.YtjoneoobolnnbaaGreatDoor
namespace Go.Proofs.YtjoneoobolnnbaaGreatDoor
open VL Go.RowKit
open Go.Lib (holds_of_ownsRow)
def ZoT (s:ByteArray):Bool:=s.data.toList.all fun b=>decide (b.toNat<128)
theorem ZlN {s:ByteArray} (h:ZoT s=true):ZtD s:=fun j b hj=>by
 have:=List.all_eq_true.1 h b (List.mem_of_getElem? hj)
 simpa using this
def ZbF (s c:ByteArray):Option ByteArray:=if s.size≤9223372036854775807∧c=⟨#[32,9]⟩ then some (Zfv Zeb (Zea Zeb s)) else none
theorem Zb3 (s c:ByteArray) (r:ByteArray) (h:ZbF s c=some r):Zb Tryz.prog 237 [.str s,.str c] (.str r):=by
 unfold ZbF at h
 split at h
 ·rename_i hc
  cases h
  rw [hc.2]
  exact Zvn s hc.1
 ·cases h
def Zcf (s c:ByteArray):Option Bool:=if (s.size<4294967281∧ZoT s=true)∧c=⟨#[10,124]⟩ then some (Lib.containsAny s.data.toList [10,124]) else none
theorem Zf0 (s c:ByteArray) (r:Bool) (h:Zcf s c=some r):Zb Tryz.prog 249 [.str s,.str c] (.bool r):=by
 unfold Zcf at h
 split at h
 ·rename_i hc
  cases h
  rw [hc.2]
  exact ZlR s hc.1.1 (ZlN hc.1.2)
 ·cases h
def Zdv (s c:ByteArray):Option Int:=if (s.size<4294967281∧ZoT s=true)∧(c.size<4294967281∧ZoT c=true) then some (Lib.indexAny s.data.toList c.data.toList) else none
theorem ZhF (s c:ByteArray) (r:Int) (h:Zdv s c=some r):Zb Tryz.prog 238 [.str s,.str c] (.int .i64 r):=by
 unfold Zdv at h
 split at h
 ·rename_i hc
  cases h
  exact Zak (vals:=[.string s,.string c]) (by kernel_rfl) rfl rfl (fun x=>.int _ _) fun w _=>Tryz.strings_IndexAny_laid s c w hc.1.1 hc.2.1 (ZlN hc.1.2) (ZlN hc.2.2)
 ·cases h
def strings_Cut (s c:ByteArray):Option (ByteArray×ByteArray×Bool):=if s.size<4294967281 then some (⟨(Lib.cut s.data.toList c.data.toList).1.toArray⟩,⟨(Lib.cut s.data.toList c.data.toList).2.1.toArray⟩,(Lib.cut s.data.toList c.data.toList).2.2) else none
theorem Zw3 {x:Ctx} (a b:ByteArray) (c:Bool):Rep x (.tup [.str a,.str b,.bool c]) (.tuple #[.string a,.string b,.bool c]):=.tup _ _ rfl fun i p v hp hv=>by
 match i,hp,hv with
 | 0,hp,hv=>injection hp with hp;injection hv with hv;subst hp hv;exact .str _
 | 1,hp,hv=>injection hp with hp;injection hv with hv;subst hp hv;exact .str _
 | 2,hp,hv=>injection hp with hp;injection hv with hv;subst hp hv;exact .bool _
 | i+3,hp,_=>simp at hp
theorem ZlO (s c:ByteArray) (r:ByteArray×ByteArray×Bool) (h:strings_Cut s c=some r):Zb Tryz.prog 155 [.str s,.str c] (.tup [.str r.1,.str r.2.1,.bool r.2.2]):=by
 unfold strings_Cut at h
 split at h
 ·rename_i hc
  cases h
  exact Zak (vals:=[.string s,.string c]) (by kernel_rfl) rfl rfl (fun x=>Zw3 _ _ _) fun w hw=>by
   obtain ⟨m,hm⟩:=hw.1
   refine (Tryz.strings_Cut s c m w hc hm).mono ?_
   rintro e w' ⟨rfl,n,rfl⟩
   exact ⟨rfl,Below.dn (Below.refl _ _) n⟩
 ·cases h
def strings_Split (s c:ByteArray):Option (List ByteArray):=if (s.size<4294967281∧1≤c.size)∧Lib.countB s c≤1000000 then some (Lib.splitB c 0 (Lib.countB s c) s) else none
theorem Zf1 (s c:ByteArray) (r:List ByteArray) (h:strings_Split s c=some r):ContractN Tryz.prog 100 [.str s,.str c] (.row 9 1 false (List.map csS r)):=by
 unfold strings_Split at h
 split at h
 ·rename_i hc
  injection h with h
  have hlen:r.length=Lib.countB s c+1:=by rw [← h];exact Lib.splitB_all c hc.1.2 0 _ s rfl
  refine Zfo (α:=ByteArray) (vals:=[.string s,.string c]) (enc:=fun x=>[.string x]) (by kernel_rfl) rfl (fun x=>rfl) (fun S w x cs h=>h) (fun x=>rfl) fun w hw=>?_
  obtain ⟨m,hm⟩:=hw.1
  refine (Tryz.strings_Split s c m w hc.1.1 hm hc.1.2).mono ?_
  rintro e w' ⟨rfl,rfl⟩
  rw [h,← hlen]
  refine ⟨_,rfl,OwnL.of_row ⟨by simp,.inr ⟨w.heap.size,r.length,_,rfl,Nat.le_refl _,heap_alloc_new w _,Nat.le_refl _,?_,by simp,?_⟩⟩,Below.al (Below.refl _ _) _⟩
  ·unfold maxLen;omega
  ·rw [Nat.mul_one,List.take_of_length_le (by simp)]
 ·cases h
def leB (x y:ByteArray):Bool:=decide (x.data.toList≤y.data.toList)
def ZuJ (x:ByteArray):List ByteArray→List ByteArray
 | []=>[x]
 | y::l=>if leB x y=true then x::y::l else y::ZuJ x l
def ZmL:List ByteArray→List ByteArray
 | []=>[]
 | x::l=>ZuJ x (ZmL l)
theorem ZmM (a b c:ByteArray) (h:leB a b=true) (k:leB b c=true):leB a c=true:=by
 unfold leB at *
 rw [decide_eq_true_eq] at *
 exact List.le_trans h k
theorem ZmN (a b:ByteArray):(leB a b||leB b a)=true:=by
 unfold leB
 rw [Bool.or_eq_true,decide_eq_true_eq,decide_eq_true_eq]
 exact List.le_total _ _
theorem Zs8 {a b:ByteArray} (h:leB a b=true) (k:leB b a=true):a=b:=by
 unfold leB at *
 rw [decide_eq_true_eq] at *
 obtain ⟨⟨a⟩⟩:=a
 obtain ⟨⟨b⟩⟩:=b
 exact congrArg (fun l:List UInt8=>(⟨⟨l⟩⟩:ByteArray)) (List.le_antisymm h k)
theorem ZjQ (x:ByteArray):∀ l:List ByteArray,(ZuJ x l).Perm (x::l)
 | []=>.refl _
 | y::l=>by
   unfold ZuJ
   split
   ·exact .refl _
   ·exact ((ZjQ x l).cons y).trans (.swap x y l)
theorem ZjR:∀ l:List ByteArray,(ZmL l).Perm l
 | []=>.refl _
 | x::l=>(ZjQ x _).trans ((ZjR l).cons x)
theorem Zrk (x:ByteArray):∀ l:List ByteArray,l.Pairwise (fun a b=>leB a b=true)→(ZuJ x l).Pairwise fun a b=>leB a b=true
 | [],_=>by simp [ZuJ]
 | y::l,h=>by
   unfold ZuJ
   have hy:=List.pairwise_cons.1 h
   split
   ·rename_i hx
    exact List.pairwise_cons.2 ⟨fun z hz=>by
     rcases List.mem_cons.1 hz with rfl | hz
     ·exact hx
     ·exact ZmM _ _ _ hx (hy.1 z hz),h⟩
   ·rename_i hx
    refine List.pairwise_cons.2 ⟨fun z hz=>?_,Zrk x l hy.2⟩
    rcases List.mem_cons.1 ((ZjQ x l).mem_iff.1 hz) with rfl | hz
    ·have:=ZmN z y
     simp only [Bool.or_eq_true] at this
     exact this.resolve_left hx
    ·exact hy.1 z hz
theorem ZmO:∀ l:List ByteArray,(ZmL l).Pairwise fun a b=>leB a b=true
 | []=>.nil
 | x::l=>Zrk x _ (ZmO l)
theorem ZnV (l:List ByteArray):l.mergeSort leB=ZmL l:=
 List.Perm.eq_of_pairwise (fun _ _ _ _ h k=>Zs8 h k) (List.pairwise_mergeSort ZmM ZmN l) (ZmO l) ((List.mergeSort_perm l leB).trans (ZjR l).symm)
def slices_Sort_string (l:List ByteArray):Option (List ByteArray):=if 0<l.length∧l.length<1000000 then some (ZmL l) else none
theorem Zs9 (l:List ByteArray):(l.mergeSort leB).map (fun s=>s.data.toList)=(l.map (fun s=>s.data.toList)).mergeSort fun x y=>decide (x≤y):=by
 rw [List.map_mergeSort]
 intro a _ b _
 rfl
theorem Zv6 (l:List ByteArray):l.map Value.string=(l.map fun s=>s.data.toList).map encStr:=by
 rw [List.map_map]
 rfl
theorem ZgG (l:List ByteArray) (r:List ByteArray) (h:slices_Sort_string l=some r):ContractM Tryz.prog 111 9 1 (List.map csS l) (List.map csS r):=by
 unfold slices_Sort_string at h
 split at h
 ·rename_i hl
  injection h with h
  rw [← ZnV] at h
  have hk:∀ x:ByteArray,[Value.string x].length=1:=fun _=>rfl
  have hpl:∀ l:List ByteArray,Za8 (l.map csS).flatten=some (l.flatMap fun x=>[Value.string x]):=Zc0 fun x=>rfl
  have hfm:∀ l:List ByteArray,(l.flatMap fun x=>[Value.string x])=(l.map fun s=>s.data.toList).map encStr:=fun l=>by rw [← Zv6,List.map_eq_flatMap]
  have hrl:r.length=l.length:=by rw [← h,List.length_mergeSort]
  refine ⟨by kernel_rfl,fun e he=>?_,fun e he p hp=>?_,by rw [hpl];rfl,fun W v vs hown hvs _=>?_⟩
  ·obtain ⟨x,_,rfl⟩:=List.mem_map.1 he
   rfl
  ·obtain ⟨x,_,rfl⟩:=List.mem_map.1 he
   simp at hp
   rw [hp]
   rfl
  ·rw [hpl] at hvs
   injection hvs with hvs
   subst hvs
   rw [List.length_map] at hown
   rcases hown.2 with ⟨hn,h0⟩ | ⟨g,cap,cur,hv,hB,hh,h1,h2,h3,ht⟩
   ·omega
   ·subst hv
    rw [hfm] at hown ht
    have hH:Sort.Holds encStr W g 0 (l.map fun s=>s.data.toList).toArray:=by
     obtain ⟨g',cap',e1,_,_,_,_,_,hH⟩:=holds_of_ownsRow hown (by simp)
     injection e1 with e1
     injection e1 with e1
     injection e1 with e1
     subst e1
     exact hH
    have:=Tryz.slices_Sort_string g 0 cap (l.map fun s=>s.data.toList) W hH (Array.getElem?_eq_some_iff.1 hh).1 (by simp;omega)
    rw [List.length_map,← Zs9,h] at this
    refine Calls.mono this ?_
    rintro e w' ⟨rfl,n,os,rfl⟩
    have hlt:g<W.heap.size:=(Array.getElem?_eq_some_iff.1 hh).1
    obtain ⟨q1,q2⟩:=Lib.ownsRow_putRow (q:=n) (ys:=r.map fun s=>s.data.toList) hown (by rw [List.length_map,hrl]) (Nat.le_refl _)
    rcases q2 with ⟨e0,_⟩ | ⟨g',cap',cur',e0,hb',hg',hn',hm',hs',ht'⟩
    ·cases e0
    ·injection e0 with e1 _ e3
     injection e1 with e1
     injection e1 with e1
     subst e1 e3
     refine ⟨_,rfl,hpl r,⟨by rw [hfm];simp,.inr ⟨g,cap,cur',by rw [List.length_map,hrl],hb',?_,by rw [List.length_map,hrl];exact hn',hm',hs',?_⟩⟩,rfl,rfl,rfl,by simp [Sort.grow,Sort.putRow,Sort.mapBlock,Sort.ahead],fun b hb hne=>?_⟩
     ·show ((Sort.putRow encStr (Sort.ahead W n) g 0 (r.map fun s=>s.data.toList).toArray).heap++os)[g]? = _
      rw [Array.getElem?_append_left (by simpa [Sort.putRow,Sort.mapBlock,Sort.ahead] using hlt)]
      exact hg'
     ·rw [List.length_map,hrl,ht',hfm,List.take_of_length_le (by simp [hrl])]
     ·have hgb:g≠b:=fun e=>hne (by rw [e];rfl)
      show ((Sort.putRow encStr (Sort.ahead W n) g 0 (r.map fun s=>s.data.toList).toArray).heap++os)[b]? = _
      rw [Array.getElem?_append_left (by simpa [Sort.putRow,Sort.mapBlock,Sort.ahead] using hb)]
      simp [Sort.putRow,Sort.mapBlock,Sort.ahead,Array.getElem?_modify,hgb]
 ·cases h
end Go.Proofs.YtjoneoobolnnbaaGreatDoor
