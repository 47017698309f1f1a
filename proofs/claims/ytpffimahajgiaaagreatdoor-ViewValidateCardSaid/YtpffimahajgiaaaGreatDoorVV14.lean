/- strings.ContainsAny at two bytes, whatever the bytes of the text are. | The library's functions at slices of strings, in the words of SlR. | Contracts in values, out of those in worlds. | trcref12.exists. | slices.IndexFunc, ContainsFunc at groups; policy.builtIn, exists. -/
import Derived.Test.YtpffimahajgiaaaGreatDoorVV13
import Derived.Laws.RangeAny
import Derived.Laws.Runes
import Derived.WalkMore
import Derived.BigQuiet
import Derived.Test.YtpffimahajgiaaaGreatDoorVV09
import Derived.Test.YtpffimahajgiaaaGreatDoorVV02
import Derived.Test.YtpffimahajgiaaaGreatDoorVV05
import Derived.Test.YtpffimahajgiaaaGreatDoorVV06
import Derived.Test.YtpffimahajgiaaaGreatDoorVV07
set_option maxRecDepth 100000
set_option linter.unusedVariables false
namespace Go.Proofs.YtpffimahajgiaaaGreatDoor
open VL Go.RowKit
theorem Zik (r:Int) (h:128≤r):∃ (n:Nat) (x:UInt8),(Utf8.encode r).size=n+1∧(1≤n∧n≤3)∧(Utf8.encode r).data.toList[n]? = some x∧128≤x.toNat:=by
 have hc:128≤(if Utf8.valid r=true then r.toNat else Utf8.runeError):=by
  split
  ·omega
  ·decide
 unfold Utf8.encode
 dsimp only
 generalize (if Utf8.valid r=true then r.toNat else Utf8.runeError)=c at hc
 have hb:∀ m:Nat,128≤(UInt8.ofNat (128+m % 64)).toNat:=fun m=>by
  rw [UInt8.toNat_ofNat']
  omega
 rw [if_neg (by omega)]
 split
 ·exact ⟨1,_,rfl,⟨by decide,by decide⟩,rfl,hb _⟩
 ·split
  ·exact ⟨2,_,rfl,⟨by decide,by decide⟩,rfl,hb _⟩
  ·exact ⟨3,_,rfl,⟨by decide,by decide⟩,rfl,hb _⟩
def Znm (e:Ending):Prop:=∃ b,e = .returned (.bool b)
theorem Zeb (r:Int) (w:World):Calls Tryz.prog 228 #[.int .i32 r] w fun e w'=>Znm e∧w'=w:=by
 go_enter Tryz.func228,Tryz.ntmps228
 go_wp2
 all_goals (go_ret;exact ⟨⟨_,rfl⟩,rfl⟩)
def chs:ByteArray:=⟨#[10,124]⟩
theorem ZgF (w:World):Calls Tryz.prog 211 #[.string chs,.int .i32 65533] w fun e w'=>e = .returned (.int .i64 (-1))∧Below w.heap.size w w':=by
 go_enter Tryz.func211,Tryz.ntmps211
 go_wp2
 go_loopg [5,6] 2 (fun g _ _ wx=>∃ i:Nat,i+g=2∧wx=w.iter chs i)
 case atStart=>exact ⟨0,by omega,rfl⟩
 case round=>
  obtain ⟨i,hig,rfl⟩:=hrel
  cases gk with
  | zero=>
    obtain rfl:i=2:=by omega
    have hnx:=fun ty=>run_next_end (P:=Tryz.prog) w chs 2 ty (by decide)
    go_wp2
    go_ret
    exact ⟨rfl,Below.al (Below.refl _ _) _⟩
  | succ g=>
    have hi:i<chs.size:=by show i<2;omega
    have hb:∀ hi:i<chs.size,(chs[i]'hi).toNat<128:=fun hi=>by
     match i,hi with
     | 0,_=>exact (by decide:(10:Nat)<128)
     | 1,_=>exact (by decide:(124:Nat)<128)
    have hnx:=fun ty=>run_next_ascii (P:=Tryz.prog) w chs i ty hi (hb hi)
    have hne:¬ ((chs[i]'hi).toNat:Int)=65533:=by have:=hb hi;omega
    generalize (chs[i]'hi).toNat=x at hnx hne
    go_wp2
    go_roundg g
    case measure=>omega
    case rel=>exact ⟨i+1,by omega,rfl⟩
set_option maxHeartbeats 2000000 in
theorem Zhq (r:Int) (h1:128≤r) (h2:r≤2147483647) (w:World):Calls Tryz.prog 211 #[.string chs,.int .i32 r] w fun e w'=>e = .returned (.int .i64 (-1))∧Below w.heap.size w w':=by
 by_cases h3:r=65533
 ·rw [h3]
  exact ZgF w
 obtain ⟨n,x,e1,⟨e2,e5⟩,e3,e4⟩:=Zik r h1
 have hc:chs.size=2:=rfl
 have hsz:((Utf8.encode r).size:Int)=(n:Int)+1:=by omega
 by_cases hn:n=1
 ·subst hn
  have hle:(2:Int)≤(chs.size:Int):=by decide
  have hw2:IntKind.i64.wrap 2=2:=rfl
  have hib:∀ c,Lib.indexByte ByteArray.empty.data.toList c = -1:=fun c=>rfl
  have hxi:(Utf8.encode r)[1]'(by omega)=x:=by
   have:=Lib.data_getElem? (Utf8.encode r) 1 (by omega)
   rw [e3] at this
   injection this with this
   exact this.symm
  have hx124:((((chs[1]'(by decide)).toNat:Nat):Int) != (x.toNat:Int))=true:=by
   show (((124:Nat):Int) != (x.toNat:Int))=true
   simp only [bne_iff_ne,ne_eq]
   omega
  go_enter Tryz.func211,Tryz.ntmps211
  go_wp2_with (first | (go_at_call 228;refine (Zeb _ _).mono ?_;rintro e w' ⟨⟨b,rfl⟩,hw⟩;rw [hw]))
  ·go_ret
   exact ⟨rfl,Below.refl _ _⟩
  go_step3
  go_wp2
  go_loopg [9] 0 (fun g s9 wx=>g=0∧s9 = .int .i64 1∧wx=w)
  case atStart=>exact ⟨rfl,by go_num,rfl⟩
  case round=>
   obtain ⟨rfl,rfl,rfl⟩:=hrel
   go_wp2
   go_step3
   go_wp2
   go_quiet (fail)
   go_wp2
   go_quiet ((go_at_call 125;refine (Tryz.strings_IndexByte _ _ _).mono ?_;rintro e w'' ⟨h5,h6⟩;exact ⟨h5.trans (congrArg (fun z=>Ending.returned (.int .i64 z)) (hib _)),_,h6⟩))
   go_wp2
   simp only [Exit.noGoto,Exit.inBlock,Exit.then]
   go_ret
   exact ⟨rfl,Below.dn (Below.refl _ _) _⟩
 ·have hn2:¬ (n:Int)<2:=by omega
  go_enter Tryz.func211,Tryz.ntmps211
  go_wp2_with (first | (go_at_call 228;refine (Zeb _ _).mono ?_;rintro e w' ⟨⟨b,rfl⟩,hw⟩;rw [hw]))
  ·go_ret
   exact ⟨rfl,Below.refl _ _⟩
  go_step3
  go_wp2
  go_loopg [9] 0 (fun g s9 wx=>g=0∧s9 = .int .i64 (n:Int)∧wx=w)
  case atStart=>exact ⟨rfl,by go_num,rfl⟩
  case round=>
   obtain ⟨rfl,rfl,rfl⟩:=hrel
   go_wp2
   change Exit.inBlock 0 _ Exit.ret _ _
   go_ret
   exact ⟨rfl,Below.refl _ _⟩
theorem Zoc {s:ByteArray} {k:Nat} {b:UInt8} (h:s.data.toList[k]? = some b):s.get! k=b:=by
 rw [Array.getElem?_toList] at h
 show s.data[k]! = b
 rw [getElem!_def,h]
theorem ZoB {s:ByteArray} {k:Nat} (h:k<s.size):s.data.toList[k]? = some (s.get! k):=by
 rw [Array.getElem?_toList]
 show s.data[k]? = some s.data[k]!
 rw [getElem!_pos s.data k h,Array.getElem?_eq_getElem h]
theorem Zil (s:ByteArray) (pos:Nat) (h:pos<s.size) (ha:128≤(s.get! pos).toNat):pos+(Utf8.decode s pos).2≤s.size∧1≤(Utf8.decode s pos).2∧128≤(Utf8.decode s pos).1∧∀ k,pos≤k→k<pos+(Utf8.decode s pos).2→128≤(s.get! k).toNat:=by
 have one:∀ n:Nat,128≤n→pos+(n,1).2≤s.size∧1≤(n,1).2∧128≤(n,1).1∧∀ k,pos≤k→k<pos+(n,1).2→128≤(s.get! k).toNat:=fun n hn=>by
  refine ⟨by dsimp only;omega,Nat.le_refl _,hn,fun k h1 h2=>?_⟩
  dsimp only at h2
  obtain rfl:k=pos:=by omega
  exact ha
 have bad:=one Utf8.runeError (by decide)
 unfold Utf8.decode
 simp only [Nat.add_zero]
 rw [if_neg (by omega)]
 split
 ·rename_i h1
  simp only [Bool.and_eq_true,decide_eq_true_eq,beq_iff_eq] at h1
  split
  ·refine ⟨by dsimp only;omega,by dsimp only;omega,by assumption,fun k q1 q2=>?_⟩
   dsimp only at q2
   rcases (show k=pos∨k=pos+1 by omega) with rfl | rfl<;>omega
  ·exact bad
 ·split
  ·rename_i h1
   simp only [Bool.and_eq_true,decide_eq_true_eq,beq_iff_eq] at h1
   split
   ·rename_i h2
    simp only [Bool.and_eq_true,decide_eq_true_eq] at h2
    refine ⟨by dsimp only;omega,by dsimp only;omega,by dsimp only;omega,fun k q1 q2=>?_⟩
    dsimp only at q2
    rcases (show k=pos∨k=pos+1∨k=pos+2 by omega) with rfl | rfl | rfl<;>omega
   ·exact bad
  ·split
   ·rename_i h1
    simp only [Bool.and_eq_true,decide_eq_true_eq,beq_iff_eq] at h1
    split
    ·rename_i h2
     simp only [Bool.and_eq_true,decide_eq_true_eq] at h2
     refine ⟨by dsimp only;omega,by dsimp only;omega,by dsimp only;omega,fun k q1 q2=>?_⟩
     dsimp only at q2
     rcases (show k=pos∨k=pos+1∨k=pos+2∨k=pos+3 by omega) with rfl | rfl | rfl | rfl<;>omega
    ·exact bad
   ·exact bad
def Zcj (w:World) (b:Nat) (s:ByteArray) (pos:Nat):World:={ w with heap:=w.heap.setIfInBounds b (.stringIter s pos) }
theorem Zhr {P:Program} (w:World) (b:Nat) (s:ByteArray) (pos:Nat) (ty:TypeId) (hw:w.heap[b]? = some (.stringIter s pos)) (h:pos<s.size) :
  (Instr.next (.pointer (some ⟨b,0,none⟩)) true ty).run P w = .ok (.tuple #[.bool true,.int .i64 pos,.int .i32 (Utf8.decode s pos).1]) (Zcj w b s (pos+(Utf8.decode s pos).2)):=by
 simp only [Instr.next,getObj,setObj,Sem.run_bind,Sem.run,hw,Result.andThen,h,if_true,Zcj]
 simp [goInt]
theorem ZgG {P:Program} (w:World) (b:Nat) (s:ByteArray) (pos:Nat) (ty:TypeId) (hw:w.heap[b]? = some (.stringIter s pos)) (h:¬ pos<s.size) :
  (Instr.next (.pointer (some ⟨b,0,none⟩)) true ty).run P w = .ok (.tuple #[.bool false]) w:=by
 simp [Instr.next,getObj,Sem.run,hw,h]
theorem Zf4 {a w:World} {b:Nat} {s:ByteArray} {pos:Nat} (h:Below a.heap.size a w) (hb:a.heap.size≤b):Below a.heap.size a (Zcj w b s pos):=
 ⟨h.os,h.tape,h.output,by show _≤(w.heap.setIfInBounds b _).size;rw [Array.size_setIfInBounds];exact h.size,fun k hk=>by
  show (w.heap.setIfInBounds b _)[k]? = _
  rw [Array.getElem?_setIfInBounds_ne (by omega)]
  exact h.block k hk⟩
theorem ZkN {w:World} {b:Nat} {s:ByteArray} {pos:Nat} (h:b<w.heap.size):(Zcj w b s pos).heap[b]? = some (.stringIter s pos):=by
 show (w.heap.setIfInBounds b _)[b]? = _
 rw [Array.getElem?_setIfInBounds_self,if_pos h]
def hit (s:ByteArray) (e:Ending):Prop:=∃ n:Int,e = .returned (.int .i64 n)∧decide (0≤n)=Lib.containsAny s.data.toList [10,124]
def Zmb (s:ByteArray) (i:Nat):Prop:=∀ k,k<i→k<s.size→[(10:UInt8),124].contains (s.get! k)=false
theorem Zod {s:ByteArray} (h:Zmb s s.size):hit s (.returned (.int .i64 (-1))):=by
 refine ⟨-1,rfl,?_⟩
 unfold Lib.containsAny
 have:¬ (0≤Lib.indexAny s.data.toList [10,124]):=fun hi=>by
  obtain ⟨b,hb,hc⟩:=(ZgN [10,124] s.data.toList).2.1 hi
  obtain ⟨k,hk⟩:=List.getElem?_of_mem hb
  have hlt:k<s.size:=by
   have:=(List.getElem?_eq_some_iff.1 hk).1
   rw [Array.length_toList] at this
   exact this
  have:=h k hlt hlt
  rw [Zoc hk,hc] at this
  cases this
 rw [decide_eq_false this]
 rfl
theorem Znn {s:ByteArray} {i:Nat} (h:i<s.size) (hx : [(10:UInt8),124].contains (s.get! i)=true):hit s (.returned (.int .i64 (i:Int))):=by
 refine ⟨i,rfl,?_⟩
 unfold Lib.containsAny
 rw [decide_eq_true (by omega),decide_eq_true]
 exact (ZgN [10,124] s.data.toList).2.2 ⟨_,List.mem_of_getElem? (ZoB h),hx⟩
theorem Zf5 {s:ByteArray} {i j:Nat} (h:Zmb s i) (hk:∀ k,i≤k→k<j→[(10:UInt8),124].contains (s.get! k)=false):Zmb s j:=fun k h1 h2=>by
 rcases Nat.lt_or_ge k i with h3 | h3
 ·exact h k h3 h2
 ·exact hk k h3 h1
theorem Zno {b:UInt8} (h:128≤b.toNat) : [(10:UInt8),124].contains b=false:=by
 rw [Bool.eq_false_iff]
 intro hc
 simp at hc
 rcases hc with rfl | rfl
 ·exact absurd h (by decide)
 ·exact absurd h (by decide)
set_option maxHeartbeats 4000000 in
theorem ZfB (s:ByteArray) (w:World) (h8:s.size≤8):Calls Tryz.prog 179 #[.string s,.string chs] w fun e w'=>hit s e∧Below w.heap.size w w':=by
 have hemp:chs.toList.isEmpty=false:=by rw [ByteArray.toList_eq];rfl
 have hn1:((chs.size:Int) == 1)=false:=rfl
 have h8z:decide ((8:Int)<(s.size:Int))=false:=decide_eq_false (by omega)
 go_enter Tryz.func179,Tryz.ntmps179
 go_wp2_with (go_at_call 212;refine (Tryz.strings_shouldUseASCIISet _ _).mono ?_;rintro e w' ⟨rfl,hw⟩;rw [hw,h8z])
 go_loopg [9,10] s.size (fun g _ _ wx=>∃ i:Nat,i+g=s.size∧Below w.heap.size w wx∧wx.heap[w.heap.size]? = some (.stringIter s i)∧Hid (Zmb s i))
 case atStart=>exact ⟨0,by omega,Below.al (Below.refl _ _) _,World.iter_heap _ _ _,Lib.hid fun k h=>absurd h (Nat.not_lt_zero _)⟩
 case round=>
  obtain ⟨i,hig,hbw,hit0,HN⟩:=hrel
  have hg:=hbw.size
  by_cases hi:i<s.size
  ·have hnx:=fun ty=>Zhr (P:=Tryz.prog) wr w.heap.size s i ty hit0 hi
   have hltw:w.heap.size<wr.heap.size:=by
    rcases Nat.lt_or_ge w.heap.size wr.heap.size with h | h
    ·exact h
    ·rw [Array.getElem?_eq_none h] at hit0;cases hit0
   by_cases ha:(s.get! i).toNat<128
   ·have hd:Utf8.decode s i=((s.get! i).toNat,1):=by
     unfold Utf8.decode
     simp only [Nat.add_zero,ha,if_true]
    rw [hd] at hnx
    dsimp only at hnx
    have hW1:Below w.heap.size w (Zcj wr w.heap.size s (i+1)):=Zf4 hbw (Nat.le_refl _)
    have hI1:(Zcj wr w.heap.size s (i+1)).heap[w.heap.size]? = some (.stringIter s (i+1)):=ZkN hltw
    generalize Zcj wr w.heap.size s (i+1)=w5 at hnx hW1 hI1
    obtain ⟨x,hx⟩:∃ x,s.get! i=x:=⟨_,rfl⟩
    rw [hx] at hnx ha hd
    have hcon:=Lib.contains_iff_indexByte [10,124] x
    have hback:((x.toNat:Int)).toNat.toUInt8=x:=by simp
    have hc0:chs.data.toList = [10,124]:=rfl
    cases hin : [(10:UInt8),124].contains x
    ·rw [hin] at hcon
     have hlt:¬ ((0:Int)≤Lib.indexByte [10,124] x):=of_decide_eq_false hcon.symm
     clear hcon
     go_wp2_with (go_at_call 211;refine (Tryz.strings_IndexRune_ascii _ _ _ (by omega) (by omega)).mono ?_;rintro e w' ⟨rfl,hw⟩;rw [hw,hback])
     go_roundg (gk - 1)
     case measure=>omega
     case rel=>
      refine ⟨i+1,by omega,hW1,hI1,Lib.hid (Zf5 HN.out fun k q1 q2=>?_)⟩
      obtain rfl:k=i:=by omega
      rw [hx]
      exact hin
    ·rw [hin] at hcon
     have hge:(0:Int)≤Lib.indexByte [10,124] x:=of_decide_eq_true hcon.symm
     clear hcon
     go_wp2_with (go_at_call 211;refine (Tryz.strings_IndexRune_ascii _ _ _ (by omega) (by omega)).mono ?_;rintro e w' ⟨rfl,hw⟩;rw [hw,hback])
     go_ret
     exact ⟨Znn hi (by rw [hx];exact hin),hW1⟩
   ·obtain ⟨d1,d2,d3,d4⟩:=Zil s i hi (by omega)
    have d5:=decode_le s i
    have hW1:Below w.heap.size w (Zcj wr w.heap.size s (i+(Utf8.decode s i).2)):=Zf4 hbw (Nat.le_refl _)
    have hI1:(Zcj wr w.heap.size s (i+(Utf8.decode s i).2)).heap[w.heap.size]? = some (.stringIter s (i+(Utf8.decode s i).2)):=ZkN hltw
    have hL1:w.heap.size<(Zcj wr w.heap.size s (i+(Utf8.decode s i).2)).heap.size:=by
     show _<(wr.heap.setIfInBounds _ _).size
     rw [Array.size_setIfInBounds]
     exact hltw
    generalize Zcj wr w.heap.size s (i+(Utf8.decode s i).2)=w5 at hnx hW1 hI1 hL1
    have HD:=Lib.hid d4
    clear d4
    generalize (Utf8.decode s i).2=n at *
    generalize (Utf8.decode s i).1=r at *
    go_wp2_with (go_at_call 211;refine (Zhq _ (by omega) (by omega) _).mono ?_;rintro e w6 ⟨rfl,hb6⟩)
    go_roundg (s.size - (i+n))
    case measure=>omega
    case rel=>exact ⟨i+n,by omega,Below.tr hW1 hb6,(hb6.block _ hL1).trans hI1,Lib.hid (Zf5 HN.out fun k q1 q2=>Zno (HD.out k q1 q2))⟩
  ·obtain rfl:i=s.size:=by omega
   have hnx:=fun ty=>ZgG (P:=Tryz.prog) wr w.heap.size s s.size ty hit0 (Nat.lt_irrefl _)
   go_wp2
   go_ret
   exact ⟨Zod HN.out,hbw⟩
theorem Zhs (s:ByteArray) (w:World) (hs:s.size<4294967281):Calls Tryz.prog 179 #[.string s,.string chs] w fun e w'=>hit s e∧Below w.heap.size w w':=by
 by_cases h8:s.size≤8
 ·exact ZfB s w h8
 ·refine (Tryz.strings_IndexAny_long (zero_of_info (P:=Tryz.prog) (t:=216) (n:=256) (by kernel_rfl)).1 s chs w (by decide) (by omega) hs (by decide) (fun j b h=>by
   match j,h with
   | 0,h=>injection h with h;subst h;decide
   | 1,h=>injection h with h;subst h;decide
   | j+2,h=>simp [chs] at h)).mono ?_
  rintro e w' ⟨rfl,h2⟩
  exact ⟨⟨_,rfl,rfl⟩,by rw [h2];exact Below.al (Below.al (Below.refl _ _) _) _⟩
theorem Zfh (s:ByteArray) (w:World) (hs:s.size<4294967281):Calls Tryz.prog 119 #[.string s,.string chs] w fun e w'=>e = .returned (.bool (Lib.containsAny s.data.toList [10,124]))∧Below w.heap.size w w':=by
 go_enter Tryz.func119,Tryz.ntmps119
 go_wp2_with (go_at_call 179;refine (Zhs _ _ hs).mono ?_;rintro e w' ⟨⟨n,rfl,hn⟩,hw⟩)
 go_ret
 exact ⟨by rw [← hn];rfl,hw⟩
theorem ZfC (s:ByteArray) (hs:s.size<4294967281):ZH Tryz.prog 119 [.str s,.str ⟨#[10,124]⟩] (.bool (Lib.containsAny s.data.toList [10,124])):=
 Zal (vals:=[.string s,.string ⟨#[10,124]⟩]) (by kernel_rfl) rfl rfl (fun x=>.bool _) fun w _=>Zfh s w hs
end Go.Proofs.YtpffimahajgiaaaGreatDoor
namespace Go.Proofs.YtpffimahajgiaaaGreatDoor
open Go.RowKit
end Go.Proofs.YtpffimahajgiaaaGreatDoor
namespace Go.Proofs.YtpffimahajgiaaaGreatDoor
open VL Go.RowKit
theorem Zj7 (t:Title):ZH Tryz.prog 40 [t.pv] (.bool t.valid):=
 Zal (vals:=[.agg #[.int .i64 t.space,.string t.name]]) (by kernel_rfl) rfl rfl (fun x=>.bool _) fun w hw=>ZhD t w hw.1
theorem ZfO (t:Title):ZH Tryz.prog 35 [t.pv] (.bool t.valid):=
 Zal (vals:=[.agg #[.int .i64 t.space,.string t.name]]) (by kernel_rfl) rfl rfl (fun x=>.bool _) fun w _=>Zez t w
end Go.Proofs.YtpffimahajgiaaaGreatDoor
namespace Go.Proofs.YtpffimahajgiaaaGreatDoor
open Go.RowKit
def Zaq (G:List Group) (s:ByteArray):Bool:=G.any (fun g=>decide (g.name=s))||Zbt s
theorem Zg8 {L:List Group} {q:Nat} {x:Group} {s:ByteArray} (h:L.drop q=x::L.drop (q+1)) (hne:x.name≠s):Zaq (L.drop q) s=Zaq (L.drop (q+1)) s:=by
 unfold Zaq
 rw [h,List.any_cons,decide_eq_false hne,Bool.false_or]
theorem Zje {L:List Group} {q:Nat} {x:Group} {s:ByteArray} (h:L.drop q=x::L.drop (q+1)) (he:x.name=s):Zaq (L.drop q) s=true:=by
 unfold Zaq
 rw [h,List.any_cons,decide_eq_true he,Bool.true_or,Bool.true_or]
end Go.Proofs.YtpffimahajgiaaaGreatDoor
namespace Go.Proofs.YtpffimahajgiaaaGreatDoor
open VL Go.RowKit
set_option maxHeartbeats 2000000 in
set_option maxRecDepth 100000 in
theorem ZhV (L:List Group) (f:Nat) (cs:List PV) (q:Group→Bool) (hL:L.length≤1000000) (hf:∀ g,ZH Tryz.prog f [g.pv,.cel cs] (.bool (q g))):∃ r,(∃ n:Int,decide (0≤n)=L.any q∧r = .int .i64 n)∧ZH Tryz.prog 177 [.sl (L.map Group.cs),.fn f [.cel cs]] r:=by
 refine ZgC mix Tryz.func177 (by kernel_rfl) rfl (by kernel_rfl) ?_
 repeat (first | refine ZB rfl (by (conv=>lhs;whnf);try rfl) ?_ | refine Zv rfl rfl rfl ?_ | refine Zc rfl rfl ?_ | refine Zj rfl (by (conv=>lhs;whnf);try rfl) ?_ | refine ZD rfl rfl (by omega) ?_ | refine Zx rfl rfl rfl (by omega) (by omega) ?_ | refine g_dec rfl rfl rfl (by omega) ?_ | refine Zw rfl rfl rfl (by omega) (by omega) ?_ | refine ZJ rfl rfl rfl rfl (by (conv=>lhs;whnf);try rfl) ?_ | refine ZL rfl rfl rfl rfl (by (conv=>lhs;whnf);try rfl) ?_ | refine ZN rfl rfl ?_ | refine g_build_ar rfl rfl ?_ | refine g_conv rfl rfl ?_ | refine ZA rfl rfl rfl rfl ?_ | refine g_shr rfl rfl rfl (by decide) ?_ | refine ZQ rfl rfl rfl (by first | decide | omega) ?_ | refine ZP rfl rfl ?_ | refine Zk Tryz.underlying9 rfl rfl ?_ | refine ZO rfl (by (conv=>lhs;whnf);try rfl) (by (conv=>lhs;whnf);try rfl) (by rfl) ?_ | refine Zl rfl rfl ?_ | refine Zm rfl rfl rfl (by (conv=>lhs;whnf);try rfl) (by (conv=>lhs;whnf);try rfl) (by rfl) (by rfl) (Nat.le_of_ble_eq_true rfl) (by (conv=>lhs;whnf);try rfl) ?_ | refine Zu rfl rfl ?_ | refine Za rfl rfl rfl (by rfl) (by decide) (by (conv=>lhs;whnf);try rfl) ?_ | refine Zg rfl rfl rfl ?_ | refine ZM rfl rfl ?_ | refine ZC rfl rfl (by (conv=>lhs;whnf);try rfl) ?_ | refine g_field rfl rfl rfl ?_ | refine Zn ?_ | refine Zo (by kernel_rfl) ?_ | refine Zq ?_ | refine Zb ?_ | refine Zf ?_ | refine Zh ?_ | refine Zr ?_ | refine Zi ?_ | refine Zp ?_ | refine Zs ?_ | refine Zy ?_ | refine Zd ?_ | refine Zt ?_ | refine Zz ?_)
 refine Zah (α:=Nat) (fun i _=>mkS [(0,.sl (L.map Group.cs)),(1,.fn f [.cel cs]),(7,.int .i64 (L.length:Int)),(8,.int .i64 ((i:Nat):Int))] [] 2)
  (fun i=>i≤L.length∧L.any q=(L.drop i).any q) (fun i=>L.length - i) 0 2 ⟨Nat.zero_le _,rfl⟩ (ZfN [] ⟨rfl,rfl,?_,rfl,trivial⟩ trivial rfl) (fun i _ hJ=>?_)
 ·show some (PV.int .i64 (L.length:Int))=some (PV.int .i64 ((L.map Group.cs).length:Int))
  rw [List.length_map]
 obtain ⟨(hi:i≤L.length),(hno:L.any q=(L.drop i).any q)⟩:=hJ
 repeat (first | refine ZB rfl (by (conv=>lhs;whnf);try rfl) ?_ | refine Zv rfl rfl rfl ?_ | refine Zc rfl rfl ?_ | refine Zj rfl (by (conv=>lhs;whnf);try rfl) ?_ | refine ZD rfl rfl (by omega) ?_ | refine Zx rfl rfl rfl (by omega) (by omega) ?_ | refine g_dec rfl rfl rfl (by omega) ?_ | refine Zw rfl rfl rfl (by omega) (by omega) ?_ | refine ZJ rfl rfl rfl rfl (by (conv=>lhs;whnf);try rfl) ?_ | refine ZL rfl rfl rfl rfl (by (conv=>lhs;whnf);try rfl) ?_ | refine ZN rfl rfl ?_ | refine g_build_ar rfl rfl ?_ | refine g_conv rfl rfl ?_ | refine ZA rfl rfl rfl rfl ?_ | refine g_shr rfl rfl rfl (by decide) ?_ | refine ZQ rfl rfl rfl (by first | decide | omega) ?_ | refine ZP rfl rfl ?_ | refine Zk Tryz.underlying9 rfl rfl ?_ | refine ZO rfl (by (conv=>lhs;whnf);try rfl) (by (conv=>lhs;whnf);try rfl) (by rfl) ?_ | refine Zl rfl rfl ?_ | refine Zm rfl rfl rfl (by (conv=>lhs;whnf);try rfl) (by (conv=>lhs;whnf);try rfl) (by rfl) (by rfl) (Nat.le_of_ble_eq_true rfl) (by (conv=>lhs;whnf);try rfl) ?_ | refine Zu rfl rfl ?_ | refine Za rfl rfl rfl (by rfl) (by decide) (by (conv=>lhs;whnf);try rfl) ?_ | refine Zg rfl rfl rfl ?_ | refine ZM rfl rfl ?_ | refine ZC rfl rfl (by (conv=>lhs;whnf);try rfl) ?_ | refine g_field rfl rfl rfl ?_ | refine Zn ?_ | refine Zo (by kernel_rfl) ?_ | refine Zq ?_ | refine Zb ?_ | refine Zf ?_ | refine Zh ?_ | refine Zr ?_ | refine Zi ?_ | refine Zp ?_ | refine Zs ?_ | refine Zy ?_ | refine Zd ?_ | refine Zt ?_ | refine Zz ?_)
 by_cases hlt:(i:Int)<(L.length:Int)
 ·refine ZE (by (conv=>lhs;whnf);try rfl) (decide_eq_true hlt) ?_
  have hlt':i<L.length:=by omega
  obtain ⟨g,hx⟩:∃ g,L[i]? = some g:=⟨_,List.getElem?_eq_getElem hlt'⟩
  have hcs:(L.map Group.cs)[i]? = some g.cs:=by rw [List.getElem?_map,hx];rfl
  have hd:L.drop i=g::L.drop (i+1):=by
   rw [List.drop_eq_getElem_cons hlt']
   rw [List.getElem?_eq_getElem hlt'] at hx
   injection hx with hx
   rw [hx]
  rw [hd,List.any_cons] at hno
  repeat (first | (refine Zam rfl rfl rfl hcs rfl ?_) | (refine Zlh (args1:=[g.pv]) (args2:=[.cel cs]) (hf g) rfl rfl rfl rfl rfl ?_) | refine ZB rfl (by (conv=>lhs;whnf);try rfl) ?_ | refine Zv rfl rfl rfl ?_ | refine Zc rfl rfl ?_ | refine Zj rfl (by (conv=>lhs;whnf);try rfl) ?_ | refine ZD rfl rfl (by omega) ?_ | refine Zx rfl rfl rfl (by omega) (by omega) ?_ | refine g_dec rfl rfl rfl (by omega) ?_ | refine Zw rfl rfl rfl (by omega) (by omega) ?_ | refine ZJ rfl rfl rfl rfl (by (conv=>lhs;whnf);try rfl) ?_ | refine ZL rfl rfl rfl rfl (by (conv=>lhs;whnf);try rfl) ?_ | refine ZN rfl rfl ?_ | refine g_build_ar rfl rfl ?_ | refine g_conv rfl rfl ?_ | refine ZA rfl rfl rfl rfl ?_ | refine g_shr rfl rfl rfl (by decide) ?_ | refine ZQ rfl rfl rfl (by first | decide | omega) ?_ | refine ZP rfl rfl ?_ | refine Zk Tryz.underlying9 rfl rfl ?_ | refine ZO rfl (by (conv=>lhs;whnf);try rfl) (by (conv=>lhs;whnf);try rfl) (by rfl) ?_ | refine Zl rfl rfl ?_ | refine Zm rfl rfl rfl (by (conv=>lhs;whnf);try rfl) (by (conv=>lhs;whnf);try rfl) (by rfl) (by rfl) (Nat.le_of_ble_eq_true rfl) (by (conv=>lhs;whnf);try rfl) ?_ | refine Zu rfl rfl ?_ | refine Za rfl rfl rfl (by rfl) (by decide) (by (conv=>lhs;whnf);try rfl) ?_ | refine Zg rfl rfl rfl ?_ | refine ZM rfl rfl ?_ | refine ZC rfl rfl (by (conv=>lhs;whnf);try rfl) ?_ | refine g_field rfl rfl rfl ?_ | refine Zn ?_ | refine Zo (by kernel_rfl) ?_ | refine Zq ?_ | refine Zb ?_ | refine Zf ?_ | refine Zh ?_ | refine Zr ?_ | refine Zi ?_ | refine Zp ?_ | refine Zs ?_ | refine Zy ?_ | refine Zd ?_ | refine Zt ?_ | refine Zz ?_)
  rcases Bool.eq_false_or_eq_true (q g) with hq | hq
  ·refine ZE (by (conv=>lhs;whnf);try rfl) hq ?_
   rw [hq,Bool.true_or] at hno
   repeat (first | refine ZB rfl (by (conv=>lhs;whnf);try rfl) ?_ | refine Zv rfl rfl rfl ?_ | refine Zc rfl rfl ?_ | refine Zj rfl (by (conv=>lhs;whnf);try rfl) ?_ | refine ZD rfl rfl (by omega) ?_ | refine Zx rfl rfl rfl (by omega) (by omega) ?_ | refine g_dec rfl rfl rfl (by omega) ?_ | refine Zw rfl rfl rfl (by omega) (by omega) ?_ | refine ZJ rfl rfl rfl rfl (by (conv=>lhs;whnf);try rfl) ?_ | refine ZL rfl rfl rfl rfl (by (conv=>lhs;whnf);try rfl) ?_ | refine ZN rfl rfl ?_ | refine g_build_ar rfl rfl ?_ | refine g_conv rfl rfl ?_ | refine ZA rfl rfl rfl rfl ?_ | refine g_shr rfl rfl rfl (by decide) ?_ | refine ZQ rfl rfl rfl (by first | decide | omega) ?_ | refine ZP rfl rfl ?_ | refine Zk Tryz.underlying9 rfl rfl ?_ | refine ZO rfl (by (conv=>lhs;whnf);try rfl) (by (conv=>lhs;whnf);try rfl) (by rfl) ?_ | refine Zl rfl rfl ?_ | refine Zm rfl rfl rfl (by (conv=>lhs;whnf);try rfl) (by (conv=>lhs;whnf);try rfl) (by rfl) (by rfl) (Nat.le_of_ble_eq_true rfl) (by (conv=>lhs;whnf);try rfl) ?_ | refine Zu rfl rfl ?_ | refine Za rfl rfl rfl (by rfl) (by decide) (by (conv=>lhs;whnf);try rfl) ?_ | refine Zg rfl rfl rfl ?_ | refine ZM rfl rfl ?_ | refine ZC rfl rfl (by (conv=>lhs;whnf);try rfl) ?_ | refine g_field rfl rfl rfl ?_ | refine Zn ?_ | refine Zo (by kernel_rfl) ?_ | refine Zq ?_ | refine Zb ?_ | refine Zf ?_ | refine Zh ?_ | refine Zr ?_ | refine Zi ?_ | refine Zp ?_ | refine Zs ?_ | refine Zy ?_ | refine Zd ?_ | refine Zt ?_ | refine Zz ?_)
   exact ⟨_,⟨(i:Int),by rw [hno];exact decide_eq_true (by omega),rfl⟩,ZZ rfl rfl rfl⟩
  ·refine ZF (by (conv=>lhs;whnf);try rfl) hq ?_
   rw [hq,Bool.false_or] at hno
   repeat (first | refine ZB rfl (by (conv=>lhs;whnf);try rfl) ?_ | refine Zv rfl rfl rfl ?_ | refine Zc rfl rfl ?_ | refine Zj rfl (by (conv=>lhs;whnf);try rfl) ?_ | refine ZD rfl rfl (by omega) ?_ | refine Zx rfl rfl rfl (by omega) (by omega) ?_ | refine g_dec rfl rfl rfl (by omega) ?_ | refine Zw rfl rfl rfl (by omega) (by omega) ?_ | refine ZJ rfl rfl rfl rfl (by (conv=>lhs;whnf);try rfl) ?_ | refine ZL rfl rfl rfl rfl (by (conv=>lhs;whnf);try rfl) ?_ | refine ZN rfl rfl ?_ | refine g_build_ar rfl rfl ?_ | refine g_conv rfl rfl ?_ | refine ZA rfl rfl rfl rfl ?_ | refine g_shr rfl rfl rfl (by decide) ?_ | refine ZQ rfl rfl rfl (by first | decide | omega) ?_ | refine ZP rfl rfl ?_ | refine Zk Tryz.underlying9 rfl rfl ?_ | refine ZO rfl (by (conv=>lhs;whnf);try rfl) (by (conv=>lhs;whnf);try rfl) (by rfl) ?_ | refine Zl rfl rfl ?_ | refine Zm rfl rfl rfl (by (conv=>lhs;whnf);try rfl) (by (conv=>lhs;whnf);try rfl) (by rfl) (by rfl) (Nat.le_of_ble_eq_true rfl) (by (conv=>lhs;whnf);try rfl) ?_ | refine Zu rfl rfl ?_ | refine Za rfl rfl rfl (by rfl) (by decide) (by (conv=>lhs;whnf);try rfl) ?_ | refine Zg rfl rfl rfl ?_ | refine ZM rfl rfl ?_ | refine ZC rfl rfl (by (conv=>lhs;whnf);try rfl) ?_ | refine g_field rfl rfl rfl ?_ | refine Zn ?_ | refine Zo (by kernel_rfl) ?_ | refine Zq ?_ | refine Zb ?_ | refine Zf ?_ | refine Zh ?_ | refine Zr ?_ | refine Zi ?_ | refine Zp ?_ | refine Zs ?_ | refine Zy ?_ | refine Zd ?_ | refine Zt ?_ | refine Zz ?_)
   exact Zab (i+1) 2 ⟨hlt',hno⟩ (by show L.length - (i+1)<L.length - i;omega) (ZfN [] ⟨rfl,rfl,rfl,rfl,trivial⟩ trivial rfl)
 ·refine ZF (by (conv=>lhs;whnf);try rfl) (decide_eq_false hlt) ?_
  obtain rfl:i=L.length:=by omega
  rw [List.drop_length] at hno
  repeat (first | refine ZB rfl (by (conv=>lhs;whnf);try rfl) ?_ | refine Zv rfl rfl rfl ?_ | refine Zc rfl rfl ?_ | refine Zj rfl (by (conv=>lhs;whnf);try rfl) ?_ | refine ZD rfl rfl (by omega) ?_ | refine Zx rfl rfl rfl (by omega) (by omega) ?_ | refine g_dec rfl rfl rfl (by omega) ?_ | refine Zw rfl rfl rfl (by omega) (by omega) ?_ | refine ZJ rfl rfl rfl rfl (by (conv=>lhs;whnf);try rfl) ?_ | refine ZL rfl rfl rfl rfl (by (conv=>lhs;whnf);try rfl) ?_ | refine ZN rfl rfl ?_ | refine g_build_ar rfl rfl ?_ | refine g_conv rfl rfl ?_ | refine ZA rfl rfl rfl rfl ?_ | refine g_shr rfl rfl rfl (by decide) ?_ | refine ZQ rfl rfl rfl (by first | decide | omega) ?_ | refine ZP rfl rfl ?_ | refine Zk Tryz.underlying9 rfl rfl ?_ | refine ZO rfl (by (conv=>lhs;whnf);try rfl) (by (conv=>lhs;whnf);try rfl) (by rfl) ?_ | refine Zl rfl rfl ?_ | refine Zm rfl rfl rfl (by (conv=>lhs;whnf);try rfl) (by (conv=>lhs;whnf);try rfl) (by rfl) (by rfl) (Nat.le_of_ble_eq_true rfl) (by (conv=>lhs;whnf);try rfl) ?_ | refine Zu rfl rfl ?_ | refine Za rfl rfl rfl (by rfl) (by decide) (by (conv=>lhs;whnf);try rfl) ?_ | refine Zg rfl rfl rfl ?_ | refine ZM rfl rfl ?_ | refine ZC rfl rfl (by (conv=>lhs;whnf);try rfl) ?_ | refine g_field rfl rfl rfl ?_ | refine Zn ?_ | refine Zo (by kernel_rfl) ?_ | refine Zq ?_ | refine Zb ?_ | refine Zf ?_ | refine Zh ?_ | refine Zr ?_ | refine Zi ?_ | refine Zp ?_ | refine Zs ?_ | refine Zy ?_ | refine Zd ?_ | refine Zt ?_ | refine Zz ?_)
  exact ⟨_,⟨-1,by rw [hno];rfl,rfl⟩,ZZ rfl rfl rfl⟩
set_option maxRecDepth 100000 in
theorem ZdC (L:List Group) (f:Nat) (cs:List PV) (q:Group→Bool) (hL:L.length≤1000000) (hf:∀ g,ZH Tryz.prog f [g.pv,.cel cs] (.bool (q g))):ZH Tryz.prog 116 [.sl (L.map Group.cs),.fn f [.cel cs]] (.bool (L.any q)):=by
 obtain ⟨_,⟨n,hn,rfl⟩,hc⟩:=ZhV L f cs q hL hf
 refine Zae mix Tryz.func116 (by kernel_rfl) rfl (by kernel_rfl) ?_
 repeat (first | (refine Zeg hc rfl rfl rfl ?_) | refine ZB rfl (by (conv=>lhs;whnf);try rfl) ?_ | refine Zv rfl rfl rfl ?_ | refine Zc rfl rfl ?_ | refine Zj rfl (by (conv=>lhs;whnf);try rfl) ?_ | refine ZD rfl rfl (by omega) ?_ | refine Zx rfl rfl rfl (by omega) (by omega) ?_ | refine g_dec rfl rfl rfl (by omega) ?_ | refine Zw rfl rfl rfl (by omega) (by omega) ?_ | refine ZJ rfl rfl rfl rfl (by (conv=>lhs;whnf);try rfl) ?_ | refine ZL rfl rfl rfl rfl (by (conv=>lhs;whnf);try rfl) ?_ | refine ZN rfl rfl ?_ | refine g_build_ar rfl rfl ?_ | refine g_conv rfl rfl ?_ | refine ZA rfl rfl rfl rfl ?_ | refine g_shr rfl rfl rfl (by decide) ?_ | refine ZQ rfl rfl rfl (by first | decide | omega) ?_ | refine ZP rfl rfl ?_ | refine Zk Tryz.underlying9 rfl rfl ?_ | refine ZO rfl (by (conv=>lhs;whnf);try rfl) (by (conv=>lhs;whnf);try rfl) (by rfl) ?_ | refine Zl rfl rfl ?_ | refine Zm rfl rfl rfl (by (conv=>lhs;whnf);try rfl) (by (conv=>lhs;whnf);try rfl) (by rfl) (by rfl) (Nat.le_of_ble_eq_true rfl) (by (conv=>lhs;whnf);try rfl) ?_ | refine Zu rfl rfl ?_ | refine Za rfl rfl rfl (by rfl) (by decide) (by (conv=>lhs;whnf);try rfl) ?_ | refine Zg rfl rfl rfl ?_ | refine ZM rfl rfl ?_ | refine ZC rfl rfl (by (conv=>lhs;whnf);try rfl) ?_ | refine g_field rfl rfl rfl ?_ | refine Zn ?_ | refine Zo (by kernel_rfl) ?_ | refine Zq ?_ | refine Zb ?_ | refine Zf ?_ | refine Zh ?_ | refine Zr ?_ | refine Zi ?_ | refine Zp ?_ | refine Zs ?_ | refine Zy ?_ | refine Zd ?_ | refine Zt ?_ | refine Zz ?_)
 exact ZZ rfl rfl (by rw [← hn];rfl)
set_option maxRecDepth 100000 in
theorem Zj8 (s:ByteArray) (g:Group):ZH Tryz.prog 178 [g.pv,.cel [.str s]] (.bool (decide (g.name=s))):=by
 refine Zae mix Tryz.func178 (by kernel_rfl) rfl (by kernel_rfl) ?_
 repeat (first | refine ZB rfl (by (conv=>lhs;whnf);try rfl) ?_ | refine Zv rfl rfl rfl ?_ | refine Zc rfl rfl ?_ | refine Zj rfl (by (conv=>lhs;whnf);try rfl) ?_ | refine ZD rfl rfl (by omega) ?_ | refine Zx rfl rfl rfl (by omega) (by omega) ?_ | refine g_dec rfl rfl rfl (by omega) ?_ | refine Zw rfl rfl rfl (by omega) (by omega) ?_ | refine ZJ rfl rfl rfl rfl (by (conv=>lhs;whnf);try rfl) ?_ | refine ZL rfl rfl rfl rfl (by (conv=>lhs;whnf);try rfl) ?_ | refine ZN rfl rfl ?_ | refine g_build_ar rfl rfl ?_ | refine g_conv rfl rfl ?_ | refine ZA rfl rfl rfl rfl ?_ | refine g_shr rfl rfl rfl (by decide) ?_ | refine ZQ rfl rfl rfl (by first | decide | omega) ?_ | refine ZP rfl rfl ?_ | refine Zk Tryz.underlying9 rfl rfl ?_ | refine ZO rfl (by (conv=>lhs;whnf);try rfl) (by (conv=>lhs;whnf);try rfl) (by rfl) ?_ | refine Zl rfl rfl ?_ | refine Zm rfl rfl rfl (by (conv=>lhs;whnf);try rfl) (by (conv=>lhs;whnf);try rfl) (by rfl) (by rfl) (Nat.le_of_ble_eq_true rfl) (by (conv=>lhs;whnf);try rfl) ?_ | refine Zu rfl rfl ?_ | refine Za rfl rfl rfl (by rfl) (by decide) (by (conv=>lhs;whnf);try rfl) ?_ | refine Zg rfl rfl rfl ?_ | refine ZM rfl rfl ?_ | refine ZC rfl rfl (by (conv=>lhs;whnf);try rfl) ?_ | refine g_field rfl rfl rfl ?_ | refine Zn ?_ | refine Zo (by kernel_rfl) ?_ | refine Zq ?_ | refine Zb ?_ | refine Zf ?_ | refine Zh ?_ | refine Zr ?_ | refine Zi ?_ | refine Zp ?_ | refine Zs ?_ | refine Zy ?_ | refine Zd ?_ | refine Zt ?_ | refine Zz ?_)
 exact ZZ rfl rfl rfl
set_option maxRecDepth 100000 in
theorem ZlC (x g:Group):ZH Tryz.prog 117 [g.pv,.cel x.cs] (.bool (decide (g.name=x.name))):=by
 refine Zae mix Tryz.func117 (by kernel_rfl) rfl (by kernel_rfl) ?_
 repeat (first | refine ZB rfl (by (conv=>lhs;whnf);try rfl) ?_ | refine Zv rfl rfl rfl ?_ | refine Zc rfl rfl ?_ | refine Zj rfl (by (conv=>lhs;whnf);try rfl) ?_ | refine ZD rfl rfl (by omega) ?_ | refine Zx rfl rfl rfl (by omega) (by omega) ?_ | refine g_dec rfl rfl rfl (by omega) ?_ | refine Zw rfl rfl rfl (by omega) (by omega) ?_ | refine ZJ rfl rfl rfl rfl (by (conv=>lhs;whnf);try rfl) ?_ | refine ZL rfl rfl rfl rfl (by (conv=>lhs;whnf);try rfl) ?_ | refine ZN rfl rfl ?_ | refine g_build_ar rfl rfl ?_ | refine g_conv rfl rfl ?_ | refine ZA rfl rfl rfl rfl ?_ | refine g_shr rfl rfl rfl (by decide) ?_ | refine ZQ rfl rfl rfl (by first | decide | omega) ?_ | refine ZP rfl rfl ?_ | refine Zk Tryz.underlying9 rfl rfl ?_ | refine ZO rfl (by (conv=>lhs;whnf);try rfl) (by (conv=>lhs;whnf);try rfl) (by rfl) ?_ | refine Zl rfl rfl ?_ | refine Zm rfl rfl rfl (by (conv=>lhs;whnf);try rfl) (by (conv=>lhs;whnf);try rfl) (by rfl) (by rfl) (Nat.le_of_ble_eq_true rfl) (by (conv=>lhs;whnf);try rfl) ?_ | refine Zu rfl rfl ?_ | refine Za rfl rfl rfl (by rfl) (by decide) (by (conv=>lhs;whnf);try rfl) ?_ | refine Zg rfl rfl rfl ?_ | refine ZM rfl rfl ?_ | refine ZC rfl rfl (by (conv=>lhs;whnf);try rfl) ?_ | refine g_field rfl rfl rfl ?_ | refine Zn ?_ | refine Zo (by kernel_rfl) ?_ | refine Zq ?_ | refine Zb ?_ | refine Zf ?_ | refine Zh ?_ | refine Zr ?_ | refine Zi ?_ | refine Zp ?_ | refine Zs ?_ | refine Zy ?_ | refine Zd ?_ | refine Zt ?_ | refine Zz ?_)
 exact ZZ rfl rfl rfl
theorem Zg9 (s:ByteArray):ZH Tryz.prog 115 [.str s] (.bool (Zbt s)):=
 Zal (vals:=[.string s]) (by kernel_rfl) rfl rfl (fun x=>.bool _) fun w _=>(Zh9 s w).mono fun e w' ⟨e1,e2⟩=>⟨e1,e2 ▸ Below.refl _ _⟩
theorem Zha (s:ByteArray):ZH Tryz.prog 123 [.str s] (.bool (Zbt s)):=
 Zal (vals:=[.string s]) (by kernel_rfl) rfl rfl (fun x=>.bool _) fun w _=>(Zfy s w).mono fun e w' ⟨e1,e2⟩=>⟨e1,e2 ▸ Below.refl _ _⟩
set_option maxRecDepth 100000 in
theorem Zgo (p:Policy) (s:ByteArray) (hL:p.groups.length≤1000000):ZH Tryz.prog 118 [p.pv,.str s] (.bool (Zaq p.groups s)):=by
 have hb:=Zg9 s
 have hc:=ZdC p.groups 178 [.str s] (fun g=>decide (g.name=s)) hL (Zj8 s)
 refine Zae mix Tryz.func118 (by kernel_rfl) rfl (by kernel_rfl) ?_
 rcases Bool.eq_false_or_eq_true (Zbt s) with h | h<;>rw [h] at hb
 ·repeat (first | (refine Zag hb rfl rfl ?_) | (refine ZY rfl ?_) | refine ZB rfl (by (conv=>lhs;whnf);try rfl) ?_ | refine Zv rfl rfl rfl ?_ | refine Zc rfl rfl ?_ | refine Zj rfl (by (conv=>lhs;whnf);try rfl) ?_ | refine ZD rfl rfl (by omega) ?_ | refine Zx rfl rfl rfl (by omega) (by omega) ?_ | refine g_dec rfl rfl rfl (by omega) ?_ | refine Zw rfl rfl rfl (by omega) (by omega) ?_ | refine ZJ rfl rfl rfl rfl (by (conv=>lhs;whnf);try rfl) ?_ | refine ZL rfl rfl rfl rfl (by (conv=>lhs;whnf);try rfl) ?_ | refine ZN rfl rfl ?_ | refine g_build_ar rfl rfl ?_ | refine g_conv rfl rfl ?_ | refine ZA rfl rfl rfl rfl ?_ | refine g_shr rfl rfl rfl (by decide) ?_ | refine ZQ rfl rfl rfl (by first | decide | omega) ?_ | refine ZP rfl rfl ?_ | refine Zk Tryz.underlying9 rfl rfl ?_ | refine ZO rfl (by (conv=>lhs;whnf);try rfl) (by (conv=>lhs;whnf);try rfl) (by rfl) ?_ | refine Zl rfl rfl ?_ | refine Zm rfl rfl rfl (by (conv=>lhs;whnf);try rfl) (by (conv=>lhs;whnf);try rfl) (by rfl) (by rfl) (Nat.le_of_ble_eq_true rfl) (by (conv=>lhs;whnf);try rfl) ?_ | refine Zu rfl rfl ?_ | refine Za rfl rfl rfl (by rfl) (by decide) (by (conv=>lhs;whnf);try rfl) ?_ | refine Zg rfl rfl rfl ?_ | refine ZM rfl rfl ?_ | refine ZC rfl rfl (by (conv=>lhs;whnf);try rfl) ?_ | refine g_field rfl rfl rfl ?_ | refine Zn ?_ | refine Zo (by kernel_rfl) ?_ | refine Zq ?_ | refine Zb ?_ | refine Zf ?_ | refine Zh ?_ | refine Zr ?_ | refine Zi ?_ | refine Zp ?_ | refine Zs ?_ | refine Zy ?_ | refine Zd ?_ | refine Zt ?_ | refine Zz ?_)
  exact ZZ rfl rfl (by unfold Zaq;rw [h,Bool.or_true];rfl)
 ·repeat (first | (refine Zag hb rfl rfl ?_) | (refine Zew rfl rfl ?_) | (refine Zeg hc rfl rfl rfl ?_) | refine ZB rfl (by (conv=>lhs;whnf);try rfl) ?_ | refine Zv rfl rfl rfl ?_ | refine Zc rfl rfl ?_ | refine Zj rfl (by (conv=>lhs;whnf);try rfl) ?_ | refine ZD rfl rfl (by omega) ?_ | refine Zx rfl rfl rfl (by omega) (by omega) ?_ | refine g_dec rfl rfl rfl (by omega) ?_ | refine Zw rfl rfl rfl (by omega) (by omega) ?_ | refine ZJ rfl rfl rfl rfl (by (conv=>lhs;whnf);try rfl) ?_ | refine ZL rfl rfl rfl rfl (by (conv=>lhs;whnf);try rfl) ?_ | refine ZN rfl rfl ?_ | refine g_build_ar rfl rfl ?_ | refine g_conv rfl rfl ?_ | refine ZA rfl rfl rfl rfl ?_ | refine g_shr rfl rfl rfl (by decide) ?_ | refine ZQ rfl rfl rfl (by first | decide | omega) ?_ | refine ZP rfl rfl ?_ | refine Zk Tryz.underlying9 rfl rfl ?_ | refine ZO rfl (by (conv=>lhs;whnf);try rfl) (by (conv=>lhs;whnf);try rfl) (by rfl) ?_ | refine Zl rfl rfl ?_ | refine Zm rfl rfl rfl (by (conv=>lhs;whnf);try rfl) (by (conv=>lhs;whnf);try rfl) (by rfl) (by rfl) (Nat.le_of_ble_eq_true rfl) (by (conv=>lhs;whnf);try rfl) ?_ | refine Zu rfl rfl ?_ | refine Za rfl rfl rfl (by rfl) (by decide) (by (conv=>lhs;whnf);try rfl) ?_ | refine Zg rfl rfl rfl ?_ | refine ZM rfl rfl ?_ | refine ZC rfl rfl (by (conv=>lhs;whnf);try rfl) ?_ | refine g_field rfl rfl rfl ?_ | refine Zn ?_ | refine Zo (by kernel_rfl) ?_ | refine Zq ?_ | refine Zb ?_ | refine Zf ?_ | refine Zh ?_ | refine Zr ?_ | refine Zi ?_ | refine Zp ?_ | refine Zs ?_ | refine Zy ?_ | refine Zd ?_ | refine Zt ?_ | refine Zz ?_)
  exact ZZ rfl rfl (by unfold Zaq;rw [h,Bool.or_false];rfl)
end Go.Proofs.YtpffimahajgiaaaGreatDoor
