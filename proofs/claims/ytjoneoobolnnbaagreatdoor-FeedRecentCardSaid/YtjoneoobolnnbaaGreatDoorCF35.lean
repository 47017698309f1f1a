/- The comparisons and the sorts of the feed as Lean functions: what they return. No program is named. | The makers of inputs as Lean functions: they return, and what. No program is named. | The makers of changes as Lean functions: they return, and what. No program is named. | Valid states, and that trcref27.Valid says so. No program is named. | What the functions of chapter 27 on lists do. No program is named. | Changes that trcref26.Valid accepts. No program is named. | Each kind of change keeps a state valid. No program is named. | Watch lists, users' last transactions, proposals, ticks: a state stays valid. No program is named. | The made policies' states, line by line; how a text is parsed when its lines are. No program is named. | How a text is parsed by the program when its lines are. No program is named. | The lines of the made policies, by the program. No program is named. | The lines of the made policies, by the program. No program is named. | The lines of the made policies, by the program. No program is named. -/
import Derived.Test.YtjoneoobolnnbaaGreatDoorCF05
import Derived.Test.YtjoneoobolnnbaaGreatDoorCF06
import Derived.Test.YtjoneoobolnnbaaGreatDoorCF34
import Derived.Test.YtjoneoobolnnbaaGreatDoorCF32
import Derived.Test.YtjoneoobolnnbaaGreatDoorCF26
import Derived.Test.YtjoneoobolnnbaaGreatDoorCF30
import Derived.Test.YtjoneoobolnnbaaGreatDoorCF28
import Derived.Test.YtjoneoobolnnbaaGreatDoorCF31
import Derived.Test.YtjoneoobolnnbaaGreatDoorCF33
import Derived.Test.YtjoneoobolnnbaaGreatDoorCF15
set_option linter.unusedVariables false
namespace Go.Proofs.YtjoneoobolnnbaaGreatDoor
open VL
theorem ZrO {α:Type} {x:Option α} {v:α} (h:Tot x fun r=>r=v):x=some v:=by
 obtain ⟨w,h1,h2⟩:=h
 rw [h1,h2]
theorem Zma (x y:Int):ZaY x y=some (Lib.compareInt x y):=by
 have e:∀ z:Int,ZbL z=some false:=fun z=>by
  unfold ZbL
  simp
 unfold ZaY Lib.compareInt
 rw [e,e,Option.bind_some,Option.bind_some]
 by_cases h1:x<y
 ·simp [h1]
 ·by_cases h2:y<x
  ·simp [h1,h2]
  ·simp [h1,h2]
theorem Zw0 (l:List Int) (hl:l.length≤1000):ZdN l=some (orI l):=by
 refine ZrO ?_
 unfold ZdN
 refine ZH (fun i:Int=>∃ n:Nat,i=n∧n≤l.length∧orI l=orI (l.drop n)) (fun i=>((l.length:Int) - i).toNat) ⟨0,rfl,Nat.zero_le _,by simp⟩ (by first | omega | (dsimp only;omega)) ?_
 rintro i rec ⟨n,rfl,hn,he⟩ ih
 refine Zg (fun h=>?_) fun h=>?_
 ·refine ZF (by omega) h fun e _ hg=>?_
  have hlt:n<l.length:=by omega
  rw [Int.toNat_natCast,List.getElem?_eq_getElem hlt] at hg
  injection hg with hg
  have hd:l.drop n=e::l.drop (n+1):=by rw [List.drop_eq_getElem_cons hlt,hg]
  rw [hd] at he
  refine Za0 (fun hne=>Zc ?_) fun h0=>?_
  ·rw [he]
   show e=if e=0 then _ else e
   rw [if_neg hne]
  ·refine ih _ ⟨n+1,(Zs (by omega) (by omega)).trans (by omega),by omega,?_⟩ ?_
   ·rw [he]
    show (if e=0 then _ else e)=_
    rw [if_pos h0]
   ·rw [Zs (by omega) (by omega)]
    omega
 ·have hd:l.drop n = []:=List.drop_eq_nil_of_le (by omega)
  rw [hd] at he
  exact Zc he.symm
theorem Zki (a b:Title):Za7 a b=some (Title.cmp a b):=by
 unfold Za7 strings_Compare
 rw [Zma,Option.bind_some,Option.bind_some,Zw0 _ (by simp),Option.bind_some]
 rfl
theorem Zoh:Zmz Za7 Zvi:=fun a b=>ZtI (Zki a b) rfl
theorem Zw5 (a b:Title):Title.cmp a b=0↔a=b:=by
 constructor
 ·intro h
  by_cases e:a=b
  ·exact e
  ·exfalso
   rw [Zli] at h
   split at h
   ·cases h
   ·split at h
    ·cases h
    ·split at h
     ·cases h
     ·split at h
      ·rename_i h1 h2 h3 h4
       exact e (ZmW (by omega) (ZmV h4))
      ·cases h
 ·rintro rfl
  rw [Zli]
  have h3:¬ Op.bytesLess a.name.toList a.name.toList=true:=fun h=>Zj6 a.name h
  rw [if_neg (by omega),if_neg (by omega),if_neg h3,if_pos rfl]
def Zwz (x:Num):KeyF:=⟨x.seq,x.item.title,x.item.number⟩
def nLt (x y:Num):Bool:=kLt (Zwz x) (Zwz y)
theorem Zvd:Ord nLt:=kLt_ord.of Zwz
theorem ZrP (x y:Num):ZaB x y=some (orI [Lib.compareInt x.seq y.seq,Title.cmp x.item.title y.item.title,Lib.compareInt x.item.number y.item.number]):=by
 unfold ZaB
 rw [Zma,Zma,Zki,Option.bind_some,Option.bind_some,Option.bind_some,Zw0 _ (by simp),Option.bind_some]
theorem ZrQ:Zmz ZaB nLt:=fun x y=>ZtI (ZrP x y) (by
 unfold nLt kLt Ztj Zwz
 dsimp only
 apply decide_eq_decide.2
 show (if Lib.compareInt x.seq y.seq=0 then (if Title.cmp x.item.title y.item.title=0 then (if Lib.compareInt x.item.number y.item.number=0 then 0 else Lib.compareInt x.item.number y.item.number) else Title.cmp x.item.title y.item.title) else Lib.compareInt x.seq y.seq)<0↔_
 have hc:∀ a b:Int,(Lib.compareInt a b=0↔a=b)∧(Lib.compareInt a b<0↔a<b):=fun a b=>by
  unfold Lib.compareInt
  split
  ·constructor<;>constructor<;>intro h<;>omega
  ·split
   ·constructor<;>constructor<;>intro h<;>omega
   ·constructor<;>constructor<;>intro h<;>omega
 obtain ⟨s1,s2⟩:=hc x.seq y.seq
 obtain ⟨n1,n2⟩:=hc x.item.number y.item.number
 have t1:=Zw5 x.item.title y.item.title
 by_cases hs:x.seq=y.seq
 ·rw [if_pos (s1.2 hs)]
  by_cases ht:x.item.title=y.item.title
  ·rw [if_pos (t1.2 ht)]
   by_cases hn:x.item.number=y.item.number
   ·rw [if_pos (n1.2 hn)]
    constructor
    ·intro h
     omega
    ·rintro (h | ⟨_,h | ⟨_,h⟩⟩)
     ·omega
     ·rw [ht] at h
      exact absurd h (Zbf _)
     ·omega
   ·rw [if_neg (fun h=>hn (n1.1 h))]
    constructor
    ·intro h
     exact .inr ⟨hs,.inr ⟨ht,n2.1 h⟩⟩
    ·rintro (h | ⟨_,h | ⟨_,h⟩⟩)
     ·omega
     ·rw [ht] at h
      exact absurd h (Zbf _)
     ·exact n2.2 h
  ·rw [if_neg (fun h=>ht (t1.1 h))]
   constructor
   ·intro h
    exact .inr ⟨hs,.inl h⟩
   ·rintro (h | ⟨_,h | ⟨h,_⟩⟩)
    ·omega
    ·exact h
    ·exact absurd h ht
 ·rw [if_neg (fun h=>hs (s1.1 h))]
  constructor
  ·intro h
   exact .inl (s2.1 h)
  ·rintro (h | ⟨h,_⟩)
   ·exact s2.2 h
   ·exact absurd h hs)
theorem Zwt:∀ f,ZG f=ZrS ZaB f
 | 0=>rfl
 | f+1=>by
   funext p0 p1 p2 p3
   rw [ZG,Zwt f,ZrS]
   rfl
theorem Zwu (l:List Num) (n:Int):ZY l n=Zu6 ZaB l n:=by
 unfold ZY
 rw [Zwt]
 rfl
theorem Ztu (l:List Num) (hl:l.length≤100000):Tot (ZV l) fun r=>r.Perm l∧Srt nLt r:=by
 unfold ZV
 refine Zi (Q:=fun r=>r.Perm l∧Srt nLt r) ?_ fun r hr=>Zc hr
 rw [Zwu]
 exact Zu7 Zvd ZrQ l hl rfl
theorem Zwv:Zab=ZvN Za7:=rfl
set_option maxRecDepth 100000 in
theorem Zve:(List.range 13).all (fun n=>(ZcB (IntKind.wrap .u64 (n:Int))).isSome)=true:=by kernel_rfl
theorem ZwY (n:Nat) (h:n≤12):Tot (ZcB (IntKind.wrap .u64 (n:Int))) fun _=>True:=by
 have:=List.all_eq_true.1 Zve n (List.mem_range.2 (by omega))
 obtain ⟨v,hv⟩:=Option.isSome_iff_exists.1 this
 exact ⟨v,hv,trivial⟩
theorem Zvf (l:List Title) (hl:l.length≤12):Tot (ZaC l) fun r=>r.Perm l∧Srt Zvi r:=by
 unfold ZaC
 refine Zi (ZwY l.length hl) fun k _=>?_
 refine Zi (Q:=fun r=>r.Perm l∧Srt Zvi r) ?_ fun r hr=>Zc hr
 unfold Zaq
 refine ZH (fun _=>True) (fun _=>0) trivial (by omega) ?_
 rintro _ rec _ _
 rw [Zs (by omega) (by omega)]
 refine Zg (fun _=>?_) fun h=>absurd (by omega) h
 refine Zi (Q:=fun r=>∃ Z,r = []++(Z ++ [])∧Z.Perm l∧Srt Zvi Z) (by
  have:=ZqS Zti Zoh [] l [] (by simp;omega) (a:=0) (b:=(l.length:Int)) rfl (by simp)
  rw [Zwv]
  simpa using this) fun r hr=>?_
 obtain ⟨Z,rfl,h2,h3⟩:=hr
 rw [List.nil_append,List.append_nil]
 exact Zc ⟨h2,h3⟩
theorem ZrR (l:List Title) (hl:l.length≤1000000) (h:l.Nodup):ZaQ l=some l:=by
 refine ZrO ?_
 unfold ZaQ
 refine Zg (fun _=>Zc rfl) fun h2=>?_
 refine ZH (fun i:Int=>1≤i∧i≤(l.length:Int)) (fun i=>((l.length:Int) - i).toNat) ⟨by omega,by omega⟩ (by first | omega | (dsimp only;omega)) ?_
 rintro i rec ⟨h0,h1⟩ ih
 refine Zg (fun hlt=>?_) fun _=>Zc rfl
 refine ZF (by omega) hlt fun e _ he=>?_
 rw [Zs (by omega) (by omega)]
 refine ZF (by omega) (by omega) fun e2 _ he2=>?_
 refine Zg (fun heq=>?_) fun _=>?_
 ·exfalso
  subst heq
  have:=(List.getElem?_inj (i:=i.toNat) (j:=(i - 1).toNat) (by omega) h).1 (he.trans he2.symm)
  omega
 ·rw [Zs (by omega) (by omega)]
  exact ih _ ⟨by omega,by omega⟩ (by omega)
theorem Zww (l:List Title) (hl:l.length≤12) (h:l.Nodup):Tot (ZeO l) fun r=>r.Perm l∧Srt Zvi r:=by
 unfold ZeO
 refine Zi (Zvf l hl) fun r hr=>?_
 refine Zd (ZrR r (by rw [hr.1.length_eq];omega) (hr.1.nodup_iff.2 h)) (Zc hr)
def ZwM:List ByteArray:=[(⟨#[97,110,110]⟩:ByteArray),(⟨#[98,111,98]⟩:ByteArray),(⟨#[]⟩:ByteArray),(⟨#[99,121]⟩:ByteArray),(⟨#[97,110,110]⟩:ByteArray)]
def ZwN:List ByteArray:=[(⟨#[]⟩:ByteArray),(⟨#[110,111,116,101]⟩:ByteArray),(⟨#[97,95,98,32,126]⟩:ByteArray)]
def policyG:List ByteArray:=[(⟨#[97,108,108,111,119,32,114,101,97,100,32,97,108,108,32,60,97,108,108,62,10,97,108,108,111,119,32,101,100,105,116,32,97,108,108,32,60,97,108,108,62,10,97,108,108,111,119,32,109,111,118,101,32,97,108,108,32,60,97,108,108,62,10,97,108,108,111,119,32,100,101,108,101,116,101,32,97,108,108,32,60,97,108,108,62,10,97,108,108,111,119,32,114,101,118,105,101,119,32,97,108,108,32,60,97,108,108,62,10]⟩:ByteArray),(⟨#[97,108,108,111,119,32,114,101,97,100,32,97,108,108,32,60,97,108,108,62,10,97,108,108,111,119,32,101,100,105,116,32,97,108,108,32,60,97,108,108,62,10,97,108,108,111,119,32,109,111,118,101,32,97,108,108,32,60,97,108,108,62,10,97,108,108,111,119,32,100,101,108,101,116,101,32,97,108,108,32,60,97,108,108,62,10,97,108,108,111,119,32,114,101,118,105,101,119,32,97,108,108,32,60,97,108,108,62,10,103,114,111,117,112,32,115,116,97,102,102,32,97,110,110,10,100,101,110,121,32,114,101,97,100,32,97,108,108,32,65,10,97,108,108,111,119,32,114,101,97,100,32,115,116,97,102,102,32,65,47,67,10]⟩:ByteArray),(⟨#[97,108,108,111,119,32,114,101,97,100,32,97,108,108,32,60,97,108,108,62,10,97,108,108,111,119,32,101,100,105,116,32,97,108,108,32,60,97,108,108,62,10,97,108,108,111,119,32,109,111,118,101,32,97,108,108,32,60,97,108,108,62,10,97,108,108,111,119,32,100,101,108,101,116,101,32,97,108,108,32,60,97,108,108,62,10,97,108,108,111,119,32,114,101,118,105,101,119,32,97,108,108,32,60,97,108,108,62,10,103,114,111,117,112,32,115,116,97,102,102,32,97,110,110,10,103,117,97,114,100,32,115,116,97,102,102,32,65,32,124,32,83,10,115,116,114,105,99,116,32,115,116,97,102,102,32,84,101,109,112,108,97,116,101,58,84,10,103,117,97,114,100,32,115,116,97,102,102,32,66,10]⟩:ByteArray),(⟨#[103,114,111,117,112,32,115,116,97,102,102,32,97,110,110,32,64,109,111,114,101,10,103,114,111,117,112,32,109,111,114,101,32,98,111,98,10,97,108,108,111,119,32,114,101,97,100,32,97,108,108,32,60,77,97,105,110,62,10,97,108,108,111,119,32,114,101,97,100,32,97,108,108,32,60,84,101,109,112,108,97,116,101,62,10,97,108,108,111,119,32,114,101,97,100,32,97,108,108,32,60,67,97,116,101,103,111,114,121,62,10,97,108,108,111,119,32,101,100,105,116,32,117,115,101,114,115,32,60,77,97,105,110,62,10,97,108,108,111,119,32,101,100,105,116,32,115,116,97,102,102,32,60,67,97,116,101,103,111,114,121,62,10,97,108,108,111,119,32,114,101,118,105,101,119,32,115,116,97,102,102,32,60,97,108,108,62,10,97,108,108,111,119,32,109,111,118,101,32,115,116,97,102,102,32,60,97,108,108,62,10,97,108,108,111,119,32,100,101,108,101,116,101,32,115,116,97,102,102,32,60,97,108,108,62,10,97,108,108,111,119,32,114,101,97,100,32,115,116,97,102,102,32,60,97,108,108,62,10,97,108,108,111,119,32,101,100,105,116,32,115,116,97,102,102,32,60,97,108,108,62,10]⟩:ByteArray),(⟨#[97,108,108,111,119,32,114,101,97,100,32,97,108,108,32,60,97,108,108,62,10,97,108,108,111,119,32,101,100,105,116,32,97,108,108,32,60,97,108,108,62,10,97,108,108,111,119,32,109,111,118,101,32,97,108,108,32,60,97,108,108,62,10,97,108,108,111,119,32,100,101,108,101,116,101,32,97,108,108,32,60,97,108,108,62,10,97,108,108,111,119,32,114,101,118,105,101,119,32,97,108,108,32,60,97,108,108,62,10,100,101,110,121,32,114,101,97,100,32,97,108,108,32,66,10,100,101,110,121,32,114,101,97,100,32,97,108,108,32,67,97,116,101,103,111,114,121,58,89,10]⟩:ByteArray),(⟨#[97,108,108,111,119,32,114,101,97,100,32,97,108,108,32,60,97,108,108,62,10,97,108,108,111,119,32,101,100,105,116,32,97,108,108,32,60,97,108,108,62,10,97,108,108,111,119,32,109,111,118,101,32,97,108,108,32,60,97,108,108,62,10,97,108,108,111,119,32,100,101,108,101,116,101,32,97,108,108,32,60,97,108,108,62,10,97,108,108,111,119,32,114,101,118,105,101,119,32,97,108,108,32,60,97,108,108,62,10,100,101,110,121,32,101,100,105,116,32,97,108,108,32,66,10,100,101,110,121,32,114,101,97,100,32,117,115,101,114,115,32,68,10]⟩:ByteArray),(⟨#[97,108,108,111,119,32,114,101,97,100,32,97,108,108,32,60,97,108,108,62,10,97,108,108,111,119,32,101,100,105,116,32,97,108,108,32,60,97,108,108,62,10,97,108,108,111,119,32,109,111,118,101,32,97,108,108,32,60,97,108,108,62,10,97,108,108,111,119,32,100,101,108,101,116,101,32,97,108,108,32,60,97,108,108,62,10,97,108,108,111,119,32,114,101,118,105,101,119,32,97,108,108,32,60,97,108,108,62,10]⟩:ByteArray),(⟨#[97,108,108,111,119,32,114,101,97,100,32,97,108,108,32,60,97,108,108,62,10,97,108,108,111,119,32,101,100,105,116,32,97,108,108,32,60,97,108,108,62,10,97,108,108,111,119,32,109,111,118,101,32,97,108,108,32,60,97,108,108,62,10,97,108,108,111,119,32,100,101,108,101,116,101,32,97,108,108,32,60,97,108,108,62,10,97,108,108,111,119,32,114,101,118,105,101,119,32,97,108,108,32,60,97,108,108,62,10,103,114,111,117,112,32,115,116,97,102,102,32,97,110,110,10,100,101,110,121,32,114,101,118,105,101,119,32,97,108,108,32,60,97,108,108,62,10,97,108,108,111,119,32,114,101,118,105,101,119,32,115,116,97,102,102,32,60,77,97,105,110,62,10,103,117,97,114,100,32,115,116,97,102,102,32,65,10,103,117,97,114,100,32,115,116,97,102,102,32,68,10]⟩:ByteArray)]
def ZvO:List ByteArray:=[(⟨#[112,108,97,105,110,32,119,111,114,100,115,32]⟩:ByteArray),(⟨#[91,91,65,93,93,32]⟩:ByteArray),(⟨#[91,91,66,124,98,101,101,93,93,32]⟩:ByteArray),(⟨#[91,91,67,97,116,101,103,111,114,121,58,88,93,93]⟩:ByteArray),(⟨#[91,91,67,97,116,101,103,111,114,121,58,88,124,107,93,93]⟩:ByteArray),(⟨#[91,91,67,97,116,101,103,111,114,121,58,89,93,93]⟩:ByteArray),(⟨#[123,123,116,124,49,125,125]⟩:ByteArray),(⟨#[123,123,58,66,125,125,32]⟩:ByteArray),(⟨#[123,123,58,65,47,67,125,125]⟩:ByteArray),(⟨#[123,123,35,105,102,101,120,105,115,116,58,66,124,121,101,115,124,110,111,125,125,32]⟩:ByteArray),(⟨#[123,123,35,105,102,101,120,105,115,116,58,68,124,121,101,115,124,110,111,125,125]⟩:ByteArray),(⟨#[123,123,35,109,101,109,98,101,114,115,58,88,125,125,32]⟩:ByteArray),(⟨#[123,123,35,100,97,116,101,58,89,45,109,45,100,125,125,32]⟩:ByteArray),(⟨#[123,123,35,100,97,116,101,58,72,58,105,125,125,32]⟩:ByteArray),(⟨#[123,123,35,114,105,103,104,116,58,101,100,105,116,124,65,124,101,124,110,125,125,32]⟩:ByteArray),(⟨#[123,123,35,114,101,118,105,115,105,111,110,58,65,125,125,32]⟩:ByteArray),(⟨#[10,61,61,32,83,32,61,61,10,98,111,100,121,10]⟩:ByteArray),(⟨#[10,61,61,32,82,32,61,61,10,114,101,115,116,10]⟩:ByteArray),(⟨#[60,110,111,105,110,99,108,117,100,101,62,123,123,116,125,125,60,47,110,111,105,110,99,108,117,100,101,62]⟩:ByteArray),(⟨#[60,105,110,99,108,117,100,101,111,110,108,121,62,91,91,68,93,93,60,47,105,110,99,108,117,100,101,111,110,108,121,62]⟩:ByteArray),(⟨#[123,123,123,49,124,100,125,125,125,32]⟩:ByteArray),(⟨#[10,42,32,105,116,101,109,10]⟩:ByteArray),(⟨#[115,101,99,114,101,116,32]⟩:ByteArray),(⟨#[91,91,84,101,109,112,108,97,116,101,58,84,93,93]⟩:ByteArray),(⟨#[123,123,58,67,97,116,101,103,111,114,121,58,89,125,125]⟩:ByteArray),(⟨#[119,111,114,100,115,32,91,91,68,93,93,32,119,111,114,100,115]⟩:ByteArray),(⟨#[39,39,120,39,39,32]⟩:ByteArray),(⟨#[123,123,35,109,101,109,98,101,114,115,58,89,125,125]⟩:ByteArray)]
def ZgP:List Title:=[(⟨0,(⟨#[65]⟩:ByteArray)⟩:Title),(⟨0,(⟨#[66]⟩:ByteArray)⟩:Title),(⟨0,(⟨#[65,47,67]⟩:ByteArray)⟩:Title),(⟨3,(⟨#[84]⟩:ByteArray)⟩:Title),(⟨4,(⟨#[88]⟩:ByteArray)⟩:Title),(⟨4,(⟨#[89]⟩:ByteArray)⟩:Title),(⟨2,(⟨#[65,110,110]⟩:ByteArray)⟩:Title),(⟨0,(⟨#[68]⟩:ByteArray)⟩:Title)]
def usersG:List ByteArray:=[(⟨#[]⟩:ByteArray),(⟨#[97,110,110]⟩:ByteArray),(⟨#[98,111,98]⟩:ByteArray),(⟨#[99,121]⟩:ByteArray)]
structure SrcF.ok (s:SrcF):Prop where
 len:s.l.length≤9223372036854775807
 pos:0≤s.pos
theorem ZnC (v n:Int) (h0:0<n) (h1:n≤4611686018427387904):Tot (Ze3 v n) fun r=>0≤r∧r<n:=by
 unfold Ze3
 refine ZoZ (by omega) ?_
 have e1:Int.tmod v n<n:=Int.tmod_lt_of_pos v h0
 have e2 : -n<Int.tmod v n:=by
  have:=Int.tmod_lt_of_pos (-v) h0
  rw [Int.neg_tmod] at this
  omega
 refine Zam ?_
 refine Zg (fun h=>?_) fun h=>?_
 ·rw [Zs (by omega) (by omega)]
  exact Zc (by omega)
 ·exact Zc (by omega)
theorem ZtB (l:List Int) (hl:l.length≤9223372036854775807):Tot (ZhU l) fun s=>s.ok:=by
 unfold ZhU
 refine ZH (fun a:Int×Int=>0≤a.1∧a.1≤64∧a.1≤(l.length:Int)) (fun a=>(64 - a.1).toNat) ⟨by simp,by simp,by simp⟩ (by simp) ?_
 rintro ⟨i,sd⟩ rec ⟨h0,h1,h2⟩ ih
 dsimp only at h0 h1 h2 ⊢
 refine Zam ?_
 refine Zg (fun h=>?_) fun h=>?_
 ·refine Zg (fun h'=>?_) fun h'=>?_
  ·refine ZF h0 h fun e _ _=>?_
   refine Zl4 (by decide) ?_
   rw [Zs (by omega) (by omega)]
   exact ih _ ⟨by dsimp only;omega,by dsimp only;omega,by dsimp only;omega⟩ (by dsimp only;omega)
  ·exact Zc ⟨hl,Int.le_refl _⟩
 ·exact Zc ⟨hl,Int.le_refl _⟩
theorem Zcl (s:SrcF) (n:Int) (hs:s.ok) (h0:0<n) (h1:n≤4294967296):Tot (ZA s n) fun r=>(0≤r.1∧r.1<n)∧r.2.ok:=by
 have hl:=hs.len
 have hp:=hs.pos
 unfold ZA
 refine Zg (fun h=>?_) fun h=>?_
 ·have e:w64 (s.pos+1)=s.pos+1:=Zs (by omega) (by omega)
  rw [e,Zs (by omega) (by omega)]
  refine ZF (by omega) (by omega) fun e _ _=>?_
  refine Zi (ZnC e n h0 (by omega)) fun r hr=>?_
  exact Zc ⟨hr,⟨hl,by dsimp only;omega⟩⟩
 ·refine Zl4 (by decide) ?_
  have e:IntKind.wrap .u64 n=n:=by rw [IntKind.wrap_u64];omega
  rw [e]
  refine ZoZ (by omega) ?_
  generalize hx:(IntKind.wrap .u64 ((IntKind.wrap .u64 (s.seed * 6364136223846793005))+1442695040888963407))=x
  have hx0:0≤x:=by rw [← hx,IntKind.wrap_u64];omega
  have hq:0≤Int.fdiv x (2 ^ (min (33:Int).toNat (IntKind.u64).bits)):=Int.fdiv_nonneg hx0 (by decide)
  generalize Int.fdiv x (2 ^ (min (33:Int).toNat (IntKind.u64).bits))=q at hq ⊢
  have e1:Int.tmod q n<n:=Int.tmod_lt_of_pos q h0
  have e2:0≤Int.tmod q n:=Int.tmod_nonneg n hq
  have e3:IntKind.wrap .i64 (Int.tmod q n)=Int.tmod q n:=by rw [IntKind.wrap_i64];omega
  rw [e3]
  exact Zc ⟨⟨e2,e1⟩,⟨hl,hp⟩⟩
theorem Zjy {α β:Type} {l:List α} {i:Int} {f:α→Option β} {R:β→Prop} (n:Int) (hn:(l.length:Int)=n) (h:0≤i∧i<n) (k:∀ e,e ∈ l→Tot (f e) R):Tot ((atI l i).bind f) R:=ZF h.1 (by omega) fun e he _=>k e he
theorem ZnD (s:SrcF) (hs:s.ok):Tot (Ze5 s) fun r=>r.1 ∈ ZgP∧r.2.ok:=by
 unfold Ze5 ZfJ
 refine Zd rfl ?_
 refine Zi (Zcl s 8 hs (by omega) (by omega)) fun r hr=>?_
 exact Zjy 8 rfl hr.1 fun e he=>Zc ⟨he,hr.2⟩
theorem ZqV (s:SrcF) (hs:s.ok):Tot (ZgX s) fun r=>r.1 ∈ ZwM∧r.2.ok:=by
 unfold ZgX
 refine Zi (Zcl s 5 hs (by omega) (by omega)) fun r hr=>?_
 exact Zjy 5 rfl hr.1 fun e he=>Zc ⟨he,hr.2⟩
theorem ZtC (s:SrcF) (hs:s.ok):Tot (ZhW s) fun r=>r.1 ∈ ZwN∧r.2.ok:=by
 unfold ZhW
 refine Zi (Zcl s 3 hs (by omega) (by omega)) fun r hr=>?_
 exact Zjy 3 rfl hr.1 fun e he=>Zc ⟨he,hr.2⟩
theorem ZsV (s:SrcF) (hs:s.ok):Tot (Zgg s) fun r=>r.1 ∈ policyG∧r.2.ok:=by
 unfold Zgg
 refine Zi (Zcl s 8 hs (by omega) (by omega)) fun r hr=>?_
 exact Zjy 8 rfl hr.1 fun e he=>Zc ⟨he,hr.2⟩
theorem ZqW:∀ p ∈ ZvO,p.size≤40:=by decide
theorem Zuj (s:SrcF) (hs:s.ok):Tot (ZhO s) fun r=>r.1.size≤40∧r.2.ok:=by
 unfold ZhO
 refine Zi (Zcl s 28 hs (by omega) (by omega)) fun r hr=>?_
 exact Zjy 28 rfl hr.1 fun e he=>Zc ⟨ZqW e he,hr.2⟩
theorem ZqX (s:SrcF) (hs:s.ok):Tot (Zhj s) fun r=>r.1.size≤300∧r.2.ok:=by
 unfold Zhj
 refine Zi (Zcl s 12 hs (by omega) (by omega)) fun r hr=>?_
 refine ZO (fun q=>∀ t l p sd,t.size≤40→(⟨l,p,sd⟩:SrcF).ok→Tot (q t l p sd) fun r:ByteArray×SrcF=>r.1.size≤300∧r.2.ok) ?_ ?_
 ·intro t l p sd ht hok
  refine Zi (Zcl _ 5 hok (by omega) (by omega)) fun r hr=>?_
  refine ZH (fun a:ByteArray×Int×List Int×Int×Int=>(a.1.size:Int)+40 * a.2.1≤300∧(0≤a.2.1∧a.2.1≤5)∧(⟨a.2.2.1,a.2.2.2.1,a.2.2.2.2⟩:SrcF).ok) (fun a=>a.2.1.toNat) ⟨by dsimp only;omega,⟨hr.1.1,by dsimp only;omega⟩,hr.2⟩ (by dsimp only;omega) ?_
  rintro ⟨t,n,l,p,sd⟩ rec ⟨h1,h2,h3⟩ ih
  dsimp only at h1 h2 h3 ⊢
  refine Zg (fun h=>?_) fun h=>?_
  ·refine Zi (Zuj _ h3) fun r hr=>?_
   have:=hr.1
   refine Zfs (by omega) fun hsz=>?_
   rw [Zs (by omega) (by omega)]
   refine ih _ ⟨?_,?_,hr.2⟩ ?_
   ·dsimp only;rw [hsz];omega
   ·dsimp only;omega
   ·dsimp only;omega
  ·exact Zc ⟨by dsimp only;omega,h3⟩
 ·intro k hk
  refine Zg (fun h=>?_) fun h=>?_
  ·refine Zi (Zcl _ 3 hr.2 (by omega) (by omega)) fun r2 hr2=>?_
   refine Zjy 3 rfl hr2.1 fun e he=>?_
   have he':e.size≤10:=by
    simp at he
    rcases he with rfl | rfl | rfl<;>decide
   refine Zfs (by show 12+e.size≤_;omega) fun hs1=>?_
   have hs1':(ByteArray.append ⟨#[35,82,69,68,73,82,69,67,84,32,91,91]⟩ e).size≤22:=by
    have:(⟨#[35,82,69,68,73,82,69,67,84,32,91,91]⟩:ByteArray).size=12:=rfl
    rw [this] at hs1
    exact Nat.le_trans (Nat.le_of_eq hs1) (by omega)
   refine Zfs (Nat.le_trans (Nat.add_le_add_right hs1' 3) (by decide)) fun hs2=>?_
   exact hk _ _ _ _ (Nat.le_trans (Nat.le_of_eq hs2) (Nat.le_trans (Nat.add_le_add_right hs1' 3) (by decide))) hr2.2
  ·exact hk _ _ _ _ (by decide) hr.2
theorem Zoi (s:SrcF) (clock:Int) (hs:s.ok):Tot (Zdo s clock) fun r=>r.1.length≤3∧r.2.ok:=by
 unfold Zdo
 refine Zi (Zcl s 3 hs (by omega) (by omega)) fun r hr=>?_
 refine ZH (fun a:Int×Int×List Int×Int×Int×List Revision=>((a.2.2.2.2.2.length:Int)+a.2.1≤3∧0≤a.2.1∧a.2.1≤3)∧(⟨a.2.2.1,a.2.2.2.1,a.2.2.2.2.1⟩:SrcF).ok) (fun a=>a.2.1.toNat) ⟨?_,hr.2⟩ ?_ ?_
 ·dsimp only
  rw [Zs (by omega) (by omega)]
  simp
  omega
 ·dsimp only
  rw [Zs (by omega) (by omega)]
  omega
 rintro ⟨m,n,l,p,sd,out⟩ rec ⟨⟨h1,h2,h3⟩,h4⟩ ih
 dsimp only at h1 h2 h3 h4 ⊢
 refine Zg (fun h=>?_) fun h=>?_
 ·refine Zi (ZqV _ h4) fun r1 q1=>?_
  refine Zi (ZtC _ q1.2) fun r2 q2=>?_
  refine Zi (ZqX _ q2.2) fun r3 q3=>?_
  refine ZZ 3 (by simp;omega) (by decide) (by decide) ?_
  refine Zi (Zcl _ 3 q3.2 (by omega) (by omega)) fun r4 q4=>?_
  have e:w64 (n - 1)=n - 1:=Zs (by omega) (by omega)
  refine ih _ ⟨?_,q4.2⟩ ?_
  ·dsimp only
   rw [e]
   simp
   omega
  ·dsimp only
   rw [e]
   omega
 ·exact Zc ⟨by dsimp only;omega,h4⟩
def policyT:Title:=⟨5,⟨#[80,111,108,105,99,121]⟩⟩
structure Change.tame (c:Change):Prop where
 title:c.title≠policyT
 «to» : c.to≠policyT
 n0:0≤c.n
 n1:c.n≤2000
 hist:c.history.length≤3
 text:c.text.size≤300
theorem ZhR:∀ t ∈ ZgP,t≠policyT:=by decide
theorem Zdx:(⟨0,⟨#[]⟩⟩:Title)≠policyT:=by decide
def ZcQ (u:ByteArray):Bool:=decide (u=⟨#[]⟩)||Zb2 u
structure RevOK (clock q:Int) (r:Revision):Prop where
 text:r.text.size≤8192
 note:r.note.size≤200
 user:ZcQ r.user=true
 minute0:0≤r.minute
 minute1:r.minute≤clock
 seq0:1≤r.seq
 seq1:r.seq≤q
def ZwX (a b:Revision):Prop:=a.minute≤b.minute∧a.seq≤b.seq
structure HistOK (clock q:Int) (l:List Revision):Prop where
 len1:1≤l.length
 len2:l.length≤40
 num:∀ (i:Nat) r,l[i]? = some r→r.number=(i:Int)+1
 all:∀ r ∈ l,RevOK clock q r
 mono:l.Pairwise ZwX
structure StoOK (clock q:Int) (p:Stored):Prop where
 title:p.title.valid=true
 hist:HistOK clock q p.history
structure PropOK (clock top:Int) (p:Proposal):Prop where
 id1:p.id≤top
 user:ZcQ p.user=true
 title:p.title.valid=true
 base0:0≤p.base
 base1:p.base≤40
 text:p.text.size≤8192
 note:p.note.size≤200
 minute0:0≤p.minute
 minute1:p.minute≤clock
def wlt (a b:Watch):Prop:=Zi2 a.user b.user∨(a.user=b.user∧tlt a.title b.title)
def Zkg (p:Stored):ByteArray:=(p.history.getLast?.map (·.text)).getD ⟨#[]⟩
structure VS (t0:ByteArray) (q:Int) (s:State):Prop where
 seq0:0≤s.seq
 clock0:0≤s.clock
 clock1:s.clock≤52595999
 plen:s.pages.length≤200
 glen:s.gone.length≤100
 pages:∀ p ∈ s.pages,StoOK s.clock q p
 gone:∀ p ∈ s.gone,StoOK s.clock q p
 sorted:s.pages.Pairwise fun a b=>tlt a.title b.title
 rule:∀ p ∈ s.pages,p.title=policyT→Zkg p=t0
 prlen:s.proposals.length≤40
 prop0:0≤s.proposed
 prop1:s.proposed≤1073741824
 props:∀ p ∈ s.proposals,PropOK s.clock s.proposed p
 ids:∀ p ∈ s.proposals,1≤p.id
 prsort:s.proposals.Pairwise fun a b=>a.id<b.id
 wlen:s.watches.length≤100
 watches:∀ w ∈ s.watches,Zb2 w.user=true∧w.title.valid=true
 wsort:s.watches.Pairwise wlt
 llen:s.lasts.length≤60
 lasts:∀ w ∈ s.lasts,Zb2 w.user=true∧1≤w.seq∧w.seq≤q
 lsort:s.lasts.Pairwise fun a b=>Zi2 a.user b.user
theorem Zk1 (u:ByteArray):ZdL u=some (ZcQ u):=by
 unfold ZdL letk ZaG ZcQ
 by_cases h:u=(⟨#[]⟩:ByteArray)
 ·simp [h]
 ·simp [h]
theorem Ziq (u:ByteArray):ZbM u=some (ZcQ u):=by
 unfold ZbM letk ZaG ZcQ
 by_cases h:u=(⟨#[]⟩:ByteArray)
 ·simp [h]
 ·simp [h]
theorem Zb6 {α:Type} {x:Option α} {v:α} (h:Tot x fun r=>r=v):x=some v:=by
 obtain ⟨w,h1,h2⟩:=h
 rw [h1,h2]
theorem ZD {β:Type} {b:Bool} {x y:Option β} {R:β→Prop} (h:b=false) (k:Tot y R):Tot (if b=true then x else y) R:=by rw [if_neg (by rw [h];simp)];exact k
theorem Zal {β:Type} {b:Bool} {x y:Option β} {R:β→Prop} (h:b=true) (k:Tot x R):Tot (if b=true then x else y) R:=by rw [if_pos h];exact k
theorem ZhQ {α:Type} {R:α→α→Prop} {l:List α} (h:l.Pairwise R) {i j:Nat} {a b:α} (hij:i<j) (ha:l[i]? = some a) (hb:l[j]? = some b):R a b:=by
 obtain ⟨h1,rfl⟩:=List.getElem?_eq_some_iff.1 ha
 obtain ⟨h2,rfl⟩:=List.getElem?_eq_some_iff.1 hb
 exact List.pairwise_iff_getElem.1 h i j h1 h2 hij
theorem Zm6 (s:State) (q:Int) (l:List Revision) (hq:s.seq=q) (h:HistOK s.clock q l):ZcW s l=some true:=by
 subst hq
 have h1:=h.len1
 have h2:=h.len2
 refine Zb6 ?_
 unfold ZcW
 refine ZO (fun k=>Tot (k false) fun r=>r=true) ?_ fun k hk=>?_
 ·refine ZD rfl ?_
  refine ZH (fun a:Int×Int×Int=>(0≤a.2.2∧a.2.2≤(l.length:Int))∧(a.2.2=0→a.1=0∧a.2.1=1)∧∀ r,0<a.2.2→l[(a.2.2 - 1).toNat]? = some r→a.1=r.minute∧a.2.1=r.seq) (fun a=>((l.length:Int) - a.2.2).toNat) ⟨by simp,by simp,fun r h=>by simp at h⟩ (by first | omega | (dsimp only;omega)) ?_
  rintro ⟨m,q,i⟩ rec ⟨⟨h3,h4⟩,h5,h6⟩ ih
  dsimp only at h3 h4 h5 h6 ⊢
  refine Zg (fun hi=>?_) fun hi=>Zc rfl
  refine ZF h3 hi fun e he hg=>?_
  have hr:=h.all e he
  have hn:=h.num _ _ hg
  have e1:w64 (i+1)=i+1:=Zs (by omega) (by omega)
  have hm:m≤e.minute∧q≤e.seq:=by
   rcases Int.lt_or_eq_of_le h3 with h0 | h0
   ·obtain ⟨r,hr'⟩:∃ r,l[(i - 1).toNat]? = some r:=⟨_,List.getElem?_eq_getElem (by omega)⟩
    obtain ⟨rfl,rfl⟩:=h6 r h0 hr'
    exact ZhQ h.mono (by omega) hr' hg
   ·obtain ⟨rfl,rfl⟩:=h5 h0.symm
    exact ⟨hr.minute0,hr.seq0⟩
  have a1:=hr.text
  have a2:=hr.note
  have a3:=hr.minute1
  have a4:=hr.seq1
  refine ZO (fun k=>Tot (k false) fun r=>r=true) ?_ fun k hk=>?_
  ·refine ZD rfl ?_
   rw [e1]
   refine ih _ ⟨⟨by dsimp only;omega,by dsimp only;omega⟩,fun h=>by dsimp only at h;omega,fun r _ hr'=>?_⟩ (by first | omega | (dsimp only;omega))
   dsimp only at hr' ⊢
   rw [show i+1 - 1=i by omega,hg] at hr'
   injection hr' with hr'
   subst hr'
   exact ⟨rfl,rfl⟩
  ·rw [e1]
   refine Za0 (fun c=>absurd (by omega) c) fun _=>?_
   refine Zg (fun c=>absurd c (by omega)) fun _=>?_
   refine Zg (fun c=>absurd c (by omega)) fun _=>?_
   refine Zd (Zk1 _) ?_
   refine ZD (by rw [hr.user];rfl) ?_
   refine Zg (fun c=>absurd c (by omega)) fun _=>?_
   refine Zg (fun c=>absurd c (by omega)) fun _=>?_
   refine Zg (fun c=>absurd c (by omega)) fun _=>?_
   rw [decide_eq_false (by omega)]
   exact hk
 ·refine Zg (fun c=>absurd c (by omega)) fun _=>?_
  rw [decide_eq_false (by omega)]
  exact hk
theorem Zog (t0:ByteArray) (q:Int) (s:State) (h:VS t0 q s):ZcE s=some true:=by
 have h1:=h.prlen
 have h2:=h.prop0
 have h3:=h.prop1
 refine Zb6 ?_
 unfold ZcE
 refine ZO (fun k=>Tot (k false) fun r=>r=true) ?_ fun k hk=>?_
 ·refine ZD rfl ?_
  refine ZH (fun a:Int×Int=>(0≤a.2∧a.2≤(s.proposals.length:Int))∧(a.2=0→a.1=0)∧∀ p,0<a.2→s.proposals[(a.2 - 1).toNat]? = some p→a.1=p.id) (fun a=>((s.proposals.length:Int) - a.2).toNat) ⟨by simp,by simp,fun r h=>by simp at h⟩ (by first | omega | (dsimp only;omega)) ?_
  rintro ⟨m,i⟩ rec ⟨⟨h3,h4⟩,h5,h6⟩ ih
  dsimp only at h3 h4 h5 h6 ⊢
  refine Zg (fun hi=>?_) fun hi=>Zc rfl
  refine ZF h3 hi fun e he hg=>?_
  have hr:=h.props e he
  have hid:=h.ids e he
  have e1:w64 (i+1)=i+1:=Zs (by omega) (by omega)
  have hm:m<e.id:=by
   rcases Int.lt_or_eq_of_le h3 with h0 | h0
   ·obtain ⟨r,hr'⟩:∃ r,s.proposals[(i - 1).toNat]? = some r:=⟨_,List.getElem?_eq_getElem (by omega)⟩
    obtain rfl:=h6 r h0 hr'
    exact ZhQ h.prsort (by omega) hr' hg
   ·obtain rfl:=h5 h0.symm
    omega
  have a1:=hr.text
  have a2:=hr.note
  have a3:=hr.minute1
  have a4:=hr.minute0
  have a5:=hr.base0
  have a6:=hr.base1
  have a7:=hr.id1
  refine ZO (fun k=>Tot (k false) fun r=>r=true) ?_ fun k hk=>?_
  ·refine ZD rfl ?_
   rw [e1]
   refine ih _ ⟨⟨by dsimp only;omega,by dsimp only;omega⟩,fun h=>by dsimp only at h;omega,fun r _ hr'=>?_⟩ (by first | omega | (dsimp only;omega))
   dsimp only at hr' ⊢
   rw [show i+1 - 1=i by omega,hg] at hr'
   injection hr' with hr'
   subst hr'
   rfl
  ·refine Zg (fun c=>absurd c (by omega)) fun _=>?_
   refine Zg (fun c=>absurd c (by omega)) fun _=>?_
   refine Zd (Zk1 _) ?_
   refine ZD (by rw [hr.user];rfl) ?_
   refine Zd (v:=true) (by unfold Zbc;rw [hr.title]) ?_
   refine ZD rfl ?_
   refine Zg (fun c=>absurd c (by omega)) fun _=>?_
   refine Zg (fun c=>absurd c (by omega)) fun _=>?_
   refine Zg (fun c=>absurd c (by omega)) fun _=>?_
   refine Zg (fun c=>absurd c (by omega)) fun _=>?_
   refine Zg (fun c=>absurd c (by omega)) fun _=>?_
   rw [decide_eq_false (by omega)]
   exact hk
 ·refine Zg (fun c=>absurd c (by omega)) fun _=>?_
  refine Zg (fun c=>absurd c (by omega)) fun _=>?_
  rw [decide_eq_false (by omega)]
  exact hk
theorem Zo2 (a b:Watch):Tot (ZdM a b) fun r=>r=true↔wlt a b:=by
 unfold ZdM
 refine Zam ?_
 refine Zbg (fun h=>Zc ⟨fun _=>.inl h,fun _=>rfl⟩) fun h=>?_
 refine Zg (fun h2=>?_) fun h2=>?_
 ·refine Zd (v:=Title.cmp a.title b.title) rfl ?_
  refine Zc ?_
  rw [decide_eq_true_eq]
  refine ⟨fun c=>.inr ⟨h2,c⟩,fun c=>?_⟩
  rcases c with c | c
  ·unfold Zi2 at c
   rw [h] at c
   cases c
  ·exact c.2
 ·refine Zc ⟨(fun c=>by cases c),fun c=>?_⟩
  rcases c with c | c
  ·unfold Zi2 at c
   rw [h] at c
   cases c
  ·exact absurd c.1 h2
theorem Zvb (t0:ByteArray) (s:State) (h:VS t0 s.seq s):Zf7 s=some true:=by
 have h1:=h.wlen
 have h2:=h.llen
 refine Zb6 ?_
 unfold Zf7
 refine ZO (fun k=>Tot (k false) fun r=>r=true) ?_ fun k hk=>?_
 ·refine ZD rfl ?_
  refine ZH (fun i:Int=>0≤i∧i≤(s.watches.length:Int)) (fun i=>((s.watches.length:Int) - i).toNat) ⟨by omega,by omega⟩ (by first | omega | (dsimp only;omega)) ?_
  rintro i rec ⟨h3,h4⟩ ih
  refine Zg (fun hi=>?_) fun hi=>?_
  ·refine ZF h3 hi fun e he hg=>?_
   have hw:=h.watches e he
   have e1:w64 (i+1)=i+1:=Zs (by omega) (by omega)
   have e2:w64 (i - 1)=i - 1:=Zs (by omega) (by omega)
   refine ZO (fun k=>Tot (k false) fun r=>r=true) ?_ fun k hk=>?_
   ·refine ZD rfl ?_
    rw [e1]
    exact ih _ ⟨by omega,by omega⟩ (by omega)
   ·refine Zd (v:=true) (by unfold ZaG;rw [hw.1]) ?_
    refine ZD rfl ?_
    refine Zd (v:=true) (by unfold Zbc;rw [hw.2]) ?_
    refine ZD rfl ?_
    refine Zg (fun h0=>?_) fun _=>hk
    rw [e2]
    refine ZF (by omega) (by omega) fun e' _ hg'=>?_
    obtain ⟨b,hb1,hb2⟩:=Zo2 e' e
    refine Zd hb1 ?_
    rw [hb2.2 (ZhQ h.wsort (by omega) hg' hg)]
    exact hk
  ·refine ZH (fun i:Int=>0≤i∧i≤(s.lasts.length:Int)) (fun i=>((s.lasts.length:Int) - i).toNat) ⟨by omega,by omega⟩ (by first | omega | (dsimp only;omega)) ?_
   rintro i rec ⟨h3,h4⟩ ih
   refine Zg (fun hi=>?_) fun hi=>Zc rfl
   refine ZF h3 hi fun e he hg=>?_
   obtain ⟨w1,w2,w3⟩:=h.lasts e he
   have e1:w64 (i+1)=i+1:=Zs (by omega) (by omega)
   have e2:w64 (i - 1)=i - 1:=Zs (by omega) (by omega)
   refine ZO (fun k=>Tot (k false) fun r=>r=true) ?_ fun k hk=>?_
   ·refine ZD rfl ?_
    rw [e1]
    exact ih _ ⟨by omega,by omega⟩ (by omega)
   ·refine Zd (v:=true) (by unfold ZaG;rw [w1]) ?_
    refine ZD rfl ?_
    refine Zg (fun c=>absurd c (by omega)) fun _=>?_
    refine Zg (fun c=>absurd c (by omega)) fun _=>?_
    refine Zg (fun h0=>?_) fun _=>hk
    rw [e2]
    refine ZF (by omega) (by omega) fun e' _ hg'=>?_
    rw [show ltS e'.user e.user=true from ZhQ h.lsort (by omega) hg' hg]
    exact hk
 ·refine Zg (fun c=>absurd c (by omega)) fun _=>?_
  rw [decide_eq_false (by omega)]
  exact hk
theorem Zgj (l:List Stored) (t:Title) (hl:l.length≤1000000):Tot (Zcv l t) fun r=>(r = -1∧∀ p ∈ l,p.title≠t)∨∃ (n:Nat) (p:Stored),r=n∧l[n]? = some p∧p.title=t:=by
 unfold Zcv
 refine ZH (fun i:Int=>(0≤i∧i≤(l.length:Int))∧∀ (j:Nat) p,(j:Int)<i→l[j]? = some p→p.title≠t) (fun i=>((l.length:Int) - i).toNat) ⟨⟨by omega,by omega⟩,fun j p h=>by omega⟩ (by first | omega | (dsimp only;omega)) ?_
 rintro i rec ⟨⟨h3,h4⟩,h5⟩ ih
 refine Zg (fun hi=>?_) fun hi=>?_
 ·refine ZF h3 hi fun e he hg=>?_
  have e1:w64 (i+1)=i+1:=Zs (by omega) (by omega)
  refine Zg (fun c=>Zc (.inr ⟨i.toNat,e,by omega,hg,c⟩)) fun c=>?_
  rw [e1]
  refine ih _ ⟨⟨by omega,by omega⟩,fun j p hj hp=>?_⟩ (by omega)
  by_cases hji:(j:Int)<i
  ·exact h5 j p hji hp
  ·have:j=i.toNat:=by omega
   rw [this,hg] at hp
   injection hp with hp
   rw [← hp]
   exact c
 ·refine Zc (.inl ⟨rfl,fun p hp=>?_⟩)
  obtain ⟨j,hj⟩:=List.getElem?_of_mem hp
  have:=(List.getElem?_eq_some_iff.1 hj).1
  exact h5 j p (by omega) hj
theorem Zkh (p:Stored) (h0:1≤p.history.length) (hl:p.history.length≤1000000):∃ r,p.history.getLast? = some r∧Zb9 p=some r:=by
 obtain ⟨r,hr⟩:∃ r,p.history[p.history.length - 1]? = some r:=⟨_,List.getElem?_eq_getElem (by omega)⟩
 refine ⟨r,by rw [List.getLast?_eq_getElem?,hr],Zb6 ?_⟩
 unfold Zb9
 refine Zg (fun c=>absurd c (by omega)) fun _=>?_
 rw [Zs (by omega) (by omega)]
 refine ZF (by omega) (by omega) fun e _ hg=>Zc ?_
 rw [show ((p.history.length:Int) - 1).toNat=p.history.length - 1 by omega,hr] at hg
 injection hg with hg
 exact hg.symm
theorem Zws (s:State) (t:Title) (hl:s.pages.length≤1000000):Tot (Zei s t) fun r=>(r.2=false∧∀ p ∈ s.pages,p.title≠t)∨(r.2=true∧r.1 ∈ s.pages∧r.1.title=t):=by
 unfold Zei
 refine Zi (Zgj s.pages t hl) fun r hr=>?_
 rcases hr with ⟨rfl,h⟩ | ⟨n,p,rfl,h1,h2⟩
 ·exact Zg (fun _=>Zc (.inl ⟨rfl,h⟩)) fun c=>absurd (by omega) c
 ·refine Zg (fun c=>absurd c (by omega)) fun _=>?_
  have:=(List.getElem?_eq_some_iff.1 h1).1
  refine ZF (by omega) (by omega) fun e he hg=>Zc (.inr ⟨rfl,he,?_⟩)
  rw [Int.toNat_natCast,h1] at hg
  injection hg with hg
  rw [← hg]
  exact h2
theorem Zvc (t0:ByteArray) (s:State) (h:VS t0 s.seq s) (hp:∃ p n,Zaf t0=some (p,n,0)):ZfI s=some true:=by
 have h1:=h.plen
 have h2:=h.glen
 refine Zb6 ?_
 unfold ZfI
 refine ZO (fun k=>Tot (k false) fun r=>r=true) ?_ fun k hk=>?_
 ·refine ZD rfl ?_
  refine ZH (fun i:Int=>0≤i∧i≤(s.pages.length:Int)) (fun i=>((s.pages.length:Int) - i).toNat) ⟨by omega,by omega⟩ (by first | omega | (dsimp only;omega)) ?_
  rintro i rec ⟨h3,h4⟩ ih
  refine Zg (fun hi=>?_) fun hi=>?_
  ·refine ZF h3 hi fun e he hg=>?_
   have hw:=h.pages e he
   have e1:w64 (i+1)=i+1:=Zs (by omega) (by omega)
   have e2:w64 (i - 1)=i - 1:=Zs (by omega) (by omega)
   refine ZO (fun k=>Tot (k false) fun r=>r=true) ?_ fun k hk=>?_
   ·refine ZD rfl ?_
    rw [e1]
    exact ih _ ⟨by omega,by omega⟩ (by omega)
   ·refine Zd (v:=true) (by unfold Zbc;rw [hw.title]) ?_
    refine ZD rfl ?_
    refine Zd (Zm6 s _ _ rfl hw.hist) ?_
    refine ZD rfl ?_
    refine Zg (fun h0=>?_) fun _=>hk
    rw [e2]
    refine ZF (by omega) (by omega) fun e' _ hg'=>?_
    refine Zd (v:=Title.cmp e'.title e.title) rfl ?_
    have:tlt e'.title e.title:=ZhQ h.sorted (by omega) hg' hg
    unfold tlt at this
    rw [decide_eq_false (by omega)]
    exact hk
  ·refine ZH (fun i:Int=>0≤i∧i≤(s.gone.length:Int)) (fun i=>((s.gone.length:Int) - i).toNat) ⟨by omega,by omega⟩ (by first | omega | (dsimp only;omega)) ?_
   rintro i rec ⟨h3,h4⟩ ih
   refine Zg (fun hi=>?_) fun hi=>?_
   ·have e1:w64 (i+1)=i+1:=Zs (by omega) (by omega)
    refine ZO (fun k=>Tot (k false) fun r=>r=true) ?_ fun k hk=>?_
    ·refine ZD rfl ?_
     rw [e1]
     exact ih _ ⟨by omega,by omega⟩ (by omega)
    ·refine ZF h3 hi fun e he hg=>?_
     have hw:=h.gone e he
     refine Zd (v:=true) (by unfold Zbc;rw [hw.title]) ?_
     refine ZD rfl ?_
     refine ZF h3 hi fun e' he' hg'=>?_
     rw [hg] at hg'
     injection hg' with hg'
     subst hg'
     refine Zd (Zm6 s _ _ rfl hw.hist) ?_
     exact hk
   ·refine Zd (v:=policyT) rfl ?_
    refine Zi (Zws s policyT (by omega)) fun r hr=>?_
    rcases hr with ⟨hr,_⟩ | ⟨hr,hm,ht⟩
    ·rw [hr]
     exact ZD rfl (Zc rfl)
    ·rw [hr]
     refine Zal rfl ?_
     have hh:=(h.pages _ hm).hist
     obtain ⟨c,hc1,hc2⟩:=Zkh r.1 hh.len1 (by have:=hh.len2;omega)
     refine Zd hc2 ?_
     have:=h.rule _ hm ht
     unfold Zkg at this
     rw [hc1] at this
     obtain ⟨p,n,hp⟩:=hp
     refine Zd (v:=(p,n,0)) (by rw [show c.text=t0 from this];exact hp) ?_
     exact Zc rfl
 ·refine Zg (fun c=>absurd c (by omega)) fun _=>?_
  rw [decide_eq_false (by omega)]
  exact hk
theorem ZrN (t0:ByteArray) (s:State) (h:VS t0 s.seq s) (hs:s.seq≤1073741824) (hp:∃ p n,Zaf t0=some (p,n,0)):ZeG s=some true:=by
 have h1:=h.seq0
 have h2:=h.clock0
 have h3:=h.clock1
 refine Zb6 ?_
 unfold ZeG
 refine ZO (fun k=>Tot (k false) fun r=>r=true) ?_ fun k hk=>?_
 ·refine ZD rfl ?_
  refine Zam ?_
  refine Zd (Zvc t0 s h hp) ?_
  refine Zal rfl ?_
  refine Zd (Zog t0 _ s h) ?_
  refine Zal rfl ?_
  refine Zd (Zvb t0 s h) ?_
  exact Zc rfl
 ·refine Zg (fun c=>absurd c (by omega)) fun _=>?_
  refine Zg (fun c=>absurd c (by omega)) fun _=>?_
  refine Zg (fun c=>absurd c (by omega)) fun _=>?_
  rw [decide_eq_false (by omega)]
  exact hk
theorem Zih {α:Type} (l:List α):([]:List α)++l=l:=rfl
theorem Zb5 {α:Type} {l:List α} {n:Nat} {e:α} (h:l[n]? = some e):l.take n ++ [e]=l.take (n+1):=by
 rw [List.take_add_one,h]
 rfl
theorem ZeQ {α:Type} (l:List α) {a:Int} {n:Nat} (ha:a=n) (h:n≤l.length):Zin l a (l.length:Int)=some (l.drop n):=by
 subst ha
 exact Zrt h
theorem Zdc (l:List Stored) (p:Stored) (hl:l.length≤1000000):Tot (ZbK l p) fun r=>∃ n,n≤l.length∧r=l.take n++p::l.drop n∧(∀ y ∈ l.take n,tlt y.title p.title)∧∀ y,l[n]? = some y→¬ tlt y.title p.title:=by
 unfold ZbK
 refine ZH (fun a:Int×List Stored=>∃ n:Nat,a.1=n∧n≤l.length∧a.2=l.take n∧∀ y ∈ l.take n,tlt y.title p.title) (fun a=>((l.length:Int) - a.1).toNat) ⟨0,rfl,Nat.zero_le _,rfl,fun y h=>by simp at h⟩ (by first | omega | (dsimp only;omega)) ?_
 rintro ⟨i,out⟩ rec ⟨n,hi,hn,ho,hlt⟩ ih
 dsimp only at hi ho
 subst hi ho
 refine ZO (fun k=>(∀ e,l[n]? = some e→tlt e.title p.title→Tot (k true) fun r=>∃ n,n≤l.length∧r=l.take n++p::l.drop n∧(∀ y ∈ l.take n,tlt y.title p.title)∧∀ y,l[n]? = some y→¬ tlt y.title p.title)∧
  ((∀ y,l[n]? = some y→¬ tlt y.title p.title)→Tot (k false) fun r=>∃ n,n≤l.length∧r=l.take n++p::l.drop n∧(∀ y ∈ l.take n,tlt y.title p.title)∧∀ y,l[n]? = some y→¬ tlt y.title p.title)) ⟨fun e he hep=>?_,fun hne=>?_⟩ fun k hk=>?_
 ·have hln:=(List.getElem?_eq_some_iff.1 he).1
  refine Zal rfl ?_
  refine ZF (by omega) (by omega) fun e' _ hg'=>?_
  rw [Int.toNat_natCast,he] at hg'
  injection hg' with hg'
  subst hg'
  refine ZZ 2000000 (by simp;omega) (by decide) (by decide) ?_
  rw [Zb5 he,Zs (by omega) (by omega)]
  refine ih _ ⟨n+1,by dsimp only;omega,hln,rfl,fun y hy=>?_⟩ (by first | omega | (dsimp only;omega))
  rw [← Zb5 he] at hy
  rcases List.mem_append.1 hy with hy | hy
  ·exact hlt y hy
  ·simp at hy
   rw [hy]
   exact hep
 ·refine ZD rfl ?_
  refine ZZ 2000000 (by simp;omega) (by decide) (by decide) ?_
  refine Zd (ZeQ l rfl hn) ?_
  refine ZZ 2000000 (by simp;omega) (by decide) (by decide) ?_
  exact Zc ⟨n,hn,by simp,hlt,hne⟩
 ·refine Zg (fun h=>?_) fun h=>hk.2 fun y hy=>?_
  ·refine ZF (by omega) h fun e _ hg=>?_
   rw [Int.toNat_natCast] at hg
   refine Zd (v:=Title.cmp e.title p.title) rfl ?_
   by_cases hc:Title.cmp e.title p.title<0
   ·rw [decide_eq_true hc]
    exact hk.1 e hg hc
   ·rw [decide_eq_false hc]
    refine hk.2 fun y hy=>?_
    rw [hg] at hy
    injection hy with hy
    rw [← hy]
    exact hc
  ·have:=(List.getElem?_eq_some_iff.1 hy).1
   omega
theorem Zga (l:List Stored) (n:Nat) (hn:n<l.length) (hl:l.length≤1000000):Zca l n=some (l.take n++l.drop (n+1)):=by
 refine Zb6 ?_
 unfold Zca
 refine Zd (Zu3 (Nat.le_of_lt hn)) ?_
 refine ZZ 2000000 (by simp;omega) (by decide) (by decide) ?_
 rw [Zs (by omega) (by omega)]
 refine Zd (ZeQ l (n:=n+1) (by omega) hn) ?_
 refine ZZ 2000000 (by simp;omega) (by decide) (by decide) ?_
 exact Zc rfl
theorem ZtF (l:List Proposal) (t:Title) (hl:l.length≤1000000):Tot (Zgm l t) fun r=>r.Sublist l:=by
 unfold Zgm
 refine ZH (fun a:Int×List Proposal=>∃ n:Nat,a.1=n∧n≤l.length∧a.2.Sublist (l.take n)) (fun a=>((l.length:Int) - a.1).toNat) ⟨0,rfl,Nat.zero_le _,List.Sublist.refl _⟩ (by first | omega | (dsimp only;omega)) ?_
 rintro ⟨i,out⟩ rec ⟨n,hi,hn,ho⟩ ih
 dsimp only at hi ho
 subst hi
 have hlen:=ho.length_le
 rw [List.length_take] at hlen
 refine Zg (fun h=>?_) fun h=>?_
 ·refine Zam ?_
  refine ZF (by omega) h fun e _ hg=>?_
  rw [Int.toNat_natCast] at hg
  rw [Zs (by omega) (by omega)]
  refine Za0 (fun _=>?_) fun _=>?_
  ·refine ZF (by omega) h fun e' _ hg'=>?_
   rw [Int.toNat_natCast,hg] at hg'
   injection hg' with hg'
   subst hg'
   refine ZZ 2000000 (by simp;omega) (by decide) (by decide) ?_
   refine ih _ ⟨n+1,by dsimp only;omega,by omega,?_⟩ (by first | omega | (dsimp only;omega))
   dsimp only
   rw [← Zb5 hg]
   exact List.Sublist.append ho (List.Sublist.refl _)
  ·refine ih _ ⟨n+1,by dsimp only;omega,by omega,?_⟩ (by first | omega | (dsimp only;omega))
   dsimp only
   rw [← Zb5 hg]
   exact ho.trans (List.sublist_append_left ..)
 ·refine Zc (ho.trans (List.take_sublist ..))
theorem ZtG (s:State) (c:Change) (hl:s.proposals.length≤1000000):Tot (Zgn s c) fun r=>r.2=0→∃ l,l.Sublist s.proposals∧r.1=⟨s.seq,s.clock,s.pages,s.gone,l,s.proposed,s.watches,s.lasts⟩:=by
 unfold Zgn
 generalize hL:s.proposals=l at hl ⊢
 refine ZH (fun a:Int×List Proposal=>∃ n:Nat,a.1=n∧n≤l.length∧a.2.Sublist (l.take n)) (fun a=>((l.length:Int) - a.1).toNat) ⟨0,rfl,Nat.zero_le _,List.Sublist.refl _⟩ (by first | omega | (dsimp only;omega)) ?_
 rintro ⟨i,out⟩ rec ⟨n,hi,hn,ho⟩ ih
 dsimp only at hi ho
 subst hi
 have hlen:=ho.length_le
 rw [List.length_take] at hlen
 refine Zg (fun h=>?_) fun h=>?_
 ·refine Zam ?_
  refine ZF (by omega) h fun e _ hg=>?_
  rw [Int.toNat_natCast] at hg
  rw [Zs (by omega) (by omega)]
  refine Za0 (fun _=>?_) fun _=>?_
  ·refine ZF (by omega) h fun e' _ hg'=>?_
   rw [Int.toNat_natCast,hg] at hg'
   injection hg' with hg'
   subst hg'
   refine ZZ 2000000 (by simp;omega) (by decide) (by decide) ?_
   refine ih _ ⟨n+1,by dsimp only;omega,by omega,?_⟩ (by first | omega | (dsimp only;omega))
   dsimp only
   rw [← Zb5 hg]
   exact List.Sublist.append ho (List.Sublist.refl _)
  ·refine ih _ ⟨n+1,by dsimp only;omega,by omega,?_⟩ (by first | omega | (dsimp only;omega))
   dsimp only
   rw [← Zb5 hg]
   exact ho.trans (List.sublist_append_left ..)
 ·refine Zg (fun _=>Zc (fun h=>by cases h)) fun _=>Zc fun _=>⟨out,?_,rfl⟩
  exact ho.trans (List.take_sublist ..)
theorem ZkY (s:State) (t:Title) (hl:s.gone.length≤1000000):Tot (Zdg s t) fun r=>r = -1∨∃ (n:Nat) (p:Stored),r=n∧s.gone[n]? = some p∧p.title=t:=by
 unfold Zdg
 refine ZH (fun i:Int=>-1≤i∧i<(s.gone.length:Int)) (fun i=>(i+1).toNat) ⟨?_,?_⟩ ?_ ?_
 ·rw [Zs (by omega) (by omega)];omega
 ·rw [Zs (by omega) (by omega)];omega
 ·rw [Zs (by omega) (by omega)];omega
 rintro i rec ⟨h3,h4⟩ ih
 refine Zg (fun hi=>?_) fun hi=>Zc (.inl rfl)
 refine ZF hi h4 fun e he hg=>?_
 refine Zg (fun c=>Zc (.inr ⟨i.toNat,e,by omega,hg,c⟩)) fun c=>?_
 rw [Zs (by omega) (by omega)]
 exact ih _ ⟨by omega,by omega⟩ (by omega)
theorem Zu0 (n:Int):Tot (ZbG n) fun r=>r.size≤8:=by
 unfold ZbG
 refine Zam ?_
 have fin:∀ e ∈ ([(⟨#[]⟩:ByteArray),(⟨#[84,97,108,107]⟩:ByteArray),(⟨#[85,115,101,114]⟩:ByteArray),(⟨#[84,101,109,112,108,97,116,101]⟩:ByteArray),(⟨#[67,97,116,101,103,111,114,121]⟩:ByteArray),(⟨#[80,114,111,106,101,99,116]⟩:ByteArray)]:List ByteArray),e.size≤8:=by decide
 refine Zg (fun _=>Zal rfl (Zc (by decide))) fun h=>?_
 by_cases hc:((([(⟨#[]⟩:ByteArray),(⟨#[84,97,108,107]⟩:ByteArray),(⟨#[85,115,101,114]⟩:ByteArray),(⟨#[84,101,109,112,108,97,116,101]⟩:ByteArray),(⟨#[67,97,116,101,103,111,114,121]⟩:ByteArray),(⟨#[80,114,111,106,101,99,116]⟩:ByteArray)]:List ByteArray).length:Int)≤n)
 ·rw [decide_eq_true hc]
  exact Zal rfl (Zc (by decide))
 ·rw [decide_eq_false hc]
  refine ZD rfl ?_
  refine ZF (by omega) (by omega) fun e he _=>Zc (fin e he)
theorem ZpQ (t:Title) (h:t.valid=true):Tot (Zdi t) fun r=>r.size≤8192:=by
 have hn:t.name.size≤100:=by
  unfold Title.valid at h
  simp only [Bool.and_eq_true,decide_eq_true_eq] at h
  exact h.1.1.1.1.2
 have f:Tot (ZfZ t) fun r=>r.size≤200:=by
  unfold ZfZ
  refine Zd (v:=true) (by unfold Zbc;rw [h]) ?_
  refine ZD rfl ?_
  refine Zg (fun _=>Zc (by omega)) fun _=>?_
  refine Zi (Zu0 _) fun r hr=>?_
  refine Zfs (by show r.size+1≤_;omega) fun e1=>?_
  have e1':(r++(⟨#[58]⟩:ByteArray)).size=r.size+1:=e1
  refine Zfs (by rw [e1'];omega) fun e2=>Zc ?_
  rw [e2,e1']
  omega
 unfold Zdi
 refine Zi f fun r hr=>?_
 have e0:(⟨#[35,82,69,68,73,82,69,67,84,32,91,91]⟩:ByteArray).size=12:=rfl
 refine Zfs (by rw [e0];omega) fun e1=>?_
 rw [e0] at e1
 refine Zfs (by rw [e1];show 12+r.size+2≤_;omega) fun e2=>Zc ?_
 rw [e2,e1]
 show 12+r.size+2≤_
 omega
structure ImpOK (l:List Revision):Prop where
 len1:1≤l.length
 len2:l.length≤40
 num:∀ (i:Nat) r,l[i]? = some r→r.number=(i:Int)+1
 user:∀ r ∈ l,ZcQ r.user=true∧0≤r.minute
 mono:l.Pairwise fun a b=>a.minute≤b.minute
structure CV (c:Change):Prop where
 kind1:1≤c.kind
 kind2:c.kind≤10
 user:ZcQ c.user=true
 title:c.kind≠6→c.kind≠10→c.title.valid=true
 watch:c.kind=7∨c.kind=8→c.user≠⟨#[]⟩
 dest:c.kind=4→c.to.valid=true
 tick:c.kind=6→1≤c.n
 prop:c.kind=9→0≤c.n∧c.n≤40
 imp:c.kind=5→ImpOK c.history
 text:c.text.size≤8192
 note:c.note.size≤200
 hist:∀ r ∈ c.history,r.text.size≤8192∧r.note.size≤200
theorem Zv2 (c:Change):Tot (ZhD c) fun b=>b=true→1≤c.kind∧c.kind≤10:=by
 unfold ZhD
 refine ZO (fun k=>∀ b,Tot (k b) fun b=>b=true→1≤c.kind∧c.kind≤10) (fun x1=>?_) fun k hk=>?_
 ·refine ZO (fun k=>∀ b,Tot (k b) fun b=>b=true→1≤c.kind∧c.kind≤10) (fun x2=>?_) fun k hk=>?_
  ·refine ZO (fun k=>∀ b,Tot (k b) fun b=>b=true→1≤c.kind∧c.kind≤10) (fun x3=>?_) fun k hk=>?_
   ·refine ZO (fun k=>(Tot (k true) fun b=>b=true→1≤c.kind∧c.kind≤10)∧((1≤c.kind∧c.kind≤10)→Tot (k false) fun b=>b=true→1≤c.kind∧c.kind≤10)) ⟨Zal rfl (Zc fun h=>by cases h),fun hr=>?_⟩ fun k hk=>?_
    ·refine ZD rfl ?_
     refine ZO (fun k=>∀ b,Tot (k b) fun b=>b=true→1≤c.kind∧c.kind≤10) (fun x5=>?_) fun k hk=>?_
     ·refine Zbg (fun _=>Zc fun _=>hr) fun _=>?_
      refine ZO (fun k=>∀ b,Tot (k b) fun b=>b=true→1≤c.kind∧c.kind≤10) (fun x6=>?_) fun k hk=>?_
      ·refine Zbg (fun _=>Zc fun _=>hr) fun _=>?_
       refine ZO (fun k=>∀ b,Tot (k b) fun b=>b=true→1≤c.kind∧c.kind≤10) (fun x7=>Zc fun _=>hr) fun k hk=>?_
       repeat' (first | exact hk _ | refine Zbg (fun _=>?_) fun _=>?_)
      ·repeat' (first | exact hk _ | refine Zbg (fun _=>?_) fun _=>?_)
     ·repeat' (first | exact hk _ | refine Zbg (fun _=>?_) fun _=>?_)
    ·refine Zg (fun _=>hk.1) fun h1=>?_
     by_cases h2:10<c.kind
     ·rw [decide_eq_true h2];exact hk.1
     ·rw [decide_eq_false h2];exact hk.2 ⟨by omega,by omega⟩
   ·repeat' (first | exact hk _ | refine Zbg (fun _=>?_) fun _=>?_)
  ·repeat' (first | exact hk _ | refine Zbg (fun _=>?_) fun _=>?_)
 ·repeat' (first | exact hk _ | refine Zbg (fun _=>?_) fun _=>?_)
theorem Zv3 {α:Type} {R:α→α→Prop} (tr:∀ a b c,R a b→R b c→R a c) {l:List α} (h:∀ (j:Nat) a b,l[j]? = some a→l[j+1]? = some b→R a b):l.Pairwise R:=by
 rw [List.pairwise_iff_getElem]
 have key:∀ (d i:Nat) (h1:i<l.length) (h2:i+d+1<l.length),R l[i] l[i+d+1]:=fun d=>by
  induction d with
  | zero=>exact fun i h1 h2=>h i _ _ (List.getElem?_eq_getElem h1) (List.getElem?_eq_getElem h2)
  | succ d ih=>exact fun i h1 h2=>tr _ _ _ (ih i h1 (by omega)) (h (i+d+1) _ _ (List.getElem?_eq_getElem (by omega)) (List.getElem?_eq_getElem h2))
 intro i j hi hj hij
 have:=key (j - i - 1) i hi (by omega)
 simpa [show i+(j - i - 1)+1=j by omega] using this
theorem ZwQ (l:List Revision):Tot (ZdZ l) fun b=>b=true→ImpOK l:=by
 unfold ZdZ
 refine ZO (fun k=>(Tot (k true) fun b=>b=true→ImpOK l)∧((1≤l.length∧l.length≤40)→Tot (k false) fun b=>b=true→ImpOK l)) ⟨Zal rfl (Zc fun h=>by cases h),fun hl=>?_⟩ fun k hk=>?_
 ·refine ZD rfl ?_
  refine ZH (fun i:Int=>(0≤i∧i≤(l.length:Int))∧∀ (j:Nat) r,(j:Int)<i→l[j]? = some r→r.number=(j:Int)+1∧(ZcQ r.user=true∧0≤r.minute)∧∀ r',l[j - 1]? = some r'→r'.minute≤r.minute) (fun i=>((l.length:Int) - i).toNat) ⟨⟨by omega,by omega⟩,fun j r h=>by omega⟩ (by first | omega | (dsimp only;omega)) ?_
  rintro i rec ⟨⟨h3,h4⟩,h5⟩ ih
  refine Zg (fun hi=>?_) fun hi=>Zc fun _=>?_
  ·refine ZF h3 hi fun e he hg=>?_
   have e1:w64 (i+1)=i+1:=Zs (by omega) (by omega)
   have e2:w64 (i - 1)=i - 1:=Zs (by omega) (by omega)
   refine ZO (fun k=>(Tot (k true) fun b=>b=true→ImpOK l)∧((e.number=i+1∧(ZcQ e.user=true∧0≤e.minute)∧∀ r',l[i.toNat - 1]? = some r'→r'.minute≤e.minute)→Tot (k false) fun b=>b=true→ImpOK l)) ⟨Zal rfl (Zc fun h=>by cases h),fun hf=>?_⟩ fun k hk=>?_
   ·refine ZD rfl ?_
    rw [e1]
    refine ih _ ⟨⟨by omega,by omega⟩,fun j r hj hr=>?_⟩ (by omega)
    by_cases hji:(j:Int)<i
    ·exact h5 j r hji hr
    ·obtain rfl:j=i.toNat:=by omega
     rw [hg] at hr
     injection hr with hr
     subst hr
     exact ⟨by rw [hf.1];omega,hf.2⟩
   ·rw [e1]
    refine Za0 (fun _=>hk.1) fun c1=>?_
    refine Za0 (fun _=>hk.1) fun c2=>?_
    refine Zd (Ziq _) ?_
    refine Zbg (fun _=>hk.1) fun c3=>?_
    refine Zg (fun _=>hk.1) fun c4=>?_
    refine Zg (fun _=>hk.1) fun c5=>?_
    have c3':ZcQ e.user=true:=by simpa using c3
    refine Zg (fun h0=>?_) fun h0=>?_
    ·rw [e2]
     refine ZF (by omega) (by omega) fun e' _ hg'=>?_
     by_cases c6:e.minute<e'.minute
     ·rw [decide_eq_true c6];exact hk.1
     ·rw [decide_eq_false c6]
      refine hk.2 ⟨c1,⟨c3',by omega⟩,fun r' hr'=>?_⟩
      rw [show (i - 1).toNat=i.toNat - 1 by omega,hr'] at hg'
      injection hg' with hg'
      rw [hg']
      omega
    ·refine hk.2 ⟨c1,⟨c3',by omega⟩,fun r' hr'=>?_⟩
     have:i=0:=by omega
     subst this
     have hg0:l[0]? = some e:=hg
     rw [show (0:Int).toNat - 1=0 from rfl,hg0] at hr'
     injection hr' with hr'
     rw [hr']
     omega
  ·refine ⟨hl.1,hl.2,fun j r hr=>(h5 j r ?_ hr).1,fun r hr=>?_,Zv3 (R:=fun a b:Revision=>a.minute≤b.minute) (fun a b c h1 h2=>Int.le_trans h1 h2) fun j a b ha hb=>?_⟩
   ·have:=(List.getElem?_eq_some_iff.1 hr).1
    omega
   ·obtain ⟨j,hj⟩:=List.getElem?_of_mem hr
    have:=(List.getElem?_eq_some_iff.1 hj).1
    exact (h5 j r (by omega) hj).2.1
   ·have:=(List.getElem?_eq_some_iff.1 hb).1
    exact (h5 (j+1) b (by omega) hb).2.2 a ha
 ·refine Zg (fun _=>hk.1) fun h1=>?_
  by_cases h2:40<(l.length:Int)
  ·rw [decide_eq_true h2];exact hk.1
  ·rw [decide_eq_false h2];exact hk.2 ⟨by omega,by omega⟩
structure WV (c:Change):Prop where
 user:ZcQ c.user=true
 title:c.kind≠6→c.kind≠10→c.title.valid=true
 watch:c.kind=7∨c.kind=8→c.user≠⟨#[]⟩
 dest:c.kind=4→c.to.valid=true
 tick:c.kind=6→1≤c.n
 prop:c.kind=9→0≤c.n∧c.n≤40
 imp:c.kind=5→ImpOK c.history
theorem Zs1 (c:Change):Tot (ZdO c) fun b=>b=true→WV c:=by
 unfold ZdO
 refine ZO (fun k=>(Tot (k true) fun b=>b=true→WV c)∧(ZcQ c.user=true→(c.kind≠6→c.kind≠10→c.title.valid=true)→Tot (k false) fun b=>b=true→WV c)) ⟨Zal rfl (Zc fun h=>by cases h),fun hu ht=>?_⟩ fun k hk=>?_
 ·refine ZD rfl ?_
  refine ZO (fun k=>(c.kind=7∨c.kind=8→Tot (k true) fun b=>b=true→WV c)∧(¬ (c.kind=7∨c.kind=8)→Tot (k false) fun b=>b=true→WV c)) ⟨fun hw=>?_,fun hw=>?_⟩ fun k hk=>?_
  ·refine Zal rfl (Zc fun h=>?_)
   have h':c.user≠⟨#[]⟩:=by simpa using h
   exact ⟨hu,ht,fun _=>h',fun e=>by omega,fun e=>by omega,fun e=>by omega,fun e=>by omega⟩
  ·refine ZD rfl ?_
   refine Zg (fun h4=>?_) fun h4=>?_
   ·refine ZO (fun k=>(c.to.valid=true→∀ b,Tot (k b) fun b=>b=true→WV c)∧Tot (k false) fun b=>b=true→WV c) ⟨fun hv b=>Zc fun _=>⟨hu,ht,fun e=>absurd e hw,fun _=>hv,fun e=>by omega,fun e=>by omega,fun e=>by omega⟩,Zc fun h=>by cases h⟩ fun k hk=>?_
    refine Zd (v:=c.to.valid) rfl ?_
    refine Zbg (fun hv=>?_) fun _=>hk.2
    exact Zg (fun _=>hk.1 hv _) fun _=>hk.1 hv _
   refine Zg (fun h6=>?_) fun h6=>?_
   ·refine ZO (fun k=>(1≤c.n→∀ b,Tot (k b) fun b=>b=true→WV c)∧Tot (k false) fun b=>b=true→WV c) ⟨fun hv b=>Zc fun _=>⟨hu,ht,fun e=>absurd e hw,fun e=>by omega,fun _=>hv,fun e=>by omega,fun e=>by omega⟩,Zc fun h=>by cases h⟩ fun k hk=>?_
    exact Zg (fun h=>hk.1 h _) fun _=>hk.2
   refine Zg (fun h9=>?_) fun h9=>?_
   ·refine ZO (fun k=>(0≤c.n→Tot (k (decide (c.n≤40))) fun b=>b=true→WV c)∧Tot (k false) fun b=>b=true→WV c) ⟨fun hv=>Zc fun h=>⟨hu,ht,fun e=>absurd e hw,fun e=>by omega,fun e=>by omega,fun _=>⟨hv,of_decide_eq_true h⟩,fun e=>by omega⟩,Zc fun h=>by cases h⟩ fun k hk=>?_
    exact Zg (fun h=>hk.1 h) fun _=>hk.2
   refine Zg (fun h10=>?_) fun h10=>?_
   ·refine ZO (fun k=>∀ b,Tot (k b) fun b=>b=true→WV c) (fun b=>Zc fun _=>⟨hu,ht,fun e=>absurd e hw,fun e=>by omega,fun e=>by omega,fun e=>by omega,fun e=>by omega⟩) fun k hk=>?_
    exact Zg (fun h=>hk _) fun _=>hk _
   refine Zg (fun h5=>?_) fun h5=>?_
   ·refine Zi (ZwQ c.history) fun b hb=>Zc fun h=>?_
    exact ⟨hu,ht,fun e=>absurd e hw,fun e=>by omega,fun e=>by omega,fun e=>by omega,fun _=>hb h⟩
   ·exact Zc fun _=>⟨hu,ht,fun e=>absurd e hw,fun e=>by omega,fun e=>by omega,fun e=>by omega,fun e=>by omega⟩
  ·refine Zg (fun h=>?_) fun h=>?_
   ·rw [decide_eq_true h];exact hk.1 (.inl h)
   ·by_cases h8:c.kind=8
    ·rw [decide_eq_true h8];exact hk.1 (.inr h8)
    ·rw [decide_eq_false h8];exact hk.2 (by omega)
 ·have usr:(c.kind≠6→c.kind≠10→c.title.valid=true)→Tot ((ZbM c.user).bind fun r=>k (!r)) fun b=>b=true→WV c:=fun ht=>by
   refine Zd (Ziq _) ?_
   rcases Bool.eq_false_or_eq_true (ZcQ c.user) with hu | hu
   ·rw [hu];exact hk.2 hu ht
   ·rw [hu];exact hk.1
  refine Za0 (fun h6=>?_) fun h6=>usr fun a=>absurd h6 a
  refine Za0 (fun h10=>?_) fun h10=>usr fun _ a=>absurd h10 a
  refine Zd (v:=c.title.valid) rfl ?_
  refine Zbg (fun _=>hk.1) fun hv=>usr fun _ _=>by simpa using hv
theorem ZmG (c:Change) (hl:c.history.length≤1000000):Tot (Zd0 c) fun e=>e=0→CV c:=by
 unfold Zd0
 refine Zi (Zv2 c) fun b hb=>?_
 refine Zbg (fun _=>Zc fun h=>by cases h) fun hb'=>?_
 refine Zi (Zs1 c) fun b2 hb2=>?_
 refine Zbg (fun _=>Zc fun h=>by cases h) fun hb2'=>?_
 have f:=hb (by simpa using hb')
 have w:=hb2 (by simpa using hb2')
 refine ZO (fun k=>(Tot (k true) fun e=>e=0→CV c)∧(c.text.size≤8192→c.note.size≤200→Tot (k false) fun e=>e=0→CV c)) ⟨Zal rfl (Zc fun h=>by cases h),fun a1 a2=>?_⟩ fun k hk=>?_
 ·refine ZD rfl ?_
  refine ZH (fun i:Int=>(0≤i∧i≤(c.history.length:Int))∧∀ (j:Nat) r,(j:Int)<i→c.history[j]? = some r→r.text.size≤8192∧r.note.size≤200) (fun i=>((c.history.length:Int) - i).toNat) ⟨⟨by omega,by omega⟩,fun j r h=>by omega⟩ (by first | omega | (dsimp only;omega)) ?_
  rintro i rec ⟨⟨h3,h4⟩,h5⟩ ih
  refine Zg (fun hi=>?_) fun hi=>Zc fun _=>?_
  ·have e1:w64 (i+1)=i+1:=Zs (by omega) (by omega)
   refine ZO (fun k=>(Tot (k true) fun e=>e=0→CV c)∧((∀ e,c.history[i.toNat]? = some e→e.text.size≤8192∧e.note.size≤200)→Tot (k false) fun e=>e=0→CV c)) ⟨Zal rfl (Zc fun h=>by cases h),fun hf=>?_⟩ fun k hk=>?_
   ·refine ZD rfl ?_
    rw [e1]
    refine ih _ ⟨⟨by omega,by omega⟩,fun j r hj hr=>?_⟩ (by omega)
    by_cases hji:(j:Int)<i
    ·exact h5 j r hji hr
    ·obtain rfl:j=i.toNat:=by omega
     exact hf r hr
   ·refine ZF h3 hi fun e he hg=>?_
    refine Zg (fun _=>hk.1) fun c1=>?_
    refine ZF h3 hi fun e' he' hg'=>?_
    rw [hg] at hg'
    injection hg' with hg'
    subst hg'
    by_cases c2:200<(e.note.size:Int)
    ·rw [decide_eq_true c2];exact hk.1
    ·rw [decide_eq_false c2]
     refine hk.2 fun e'' he''=>?_
     rw [hg] at he''
     injection he'' with he''
     subst he''
     exact ⟨by omega,by omega⟩
  ·refine ⟨f.1,f.2,w.user,w.title,w.watch,w.dest,w.tick,w.prop,w.imp,a1,a2,fun r hr=>?_⟩
   obtain ⟨j,hj⟩:=List.getElem?_of_mem hr
   have:=(List.getElem?_eq_some_iff.1 hj).1
   exact h5 j r (by omega) hj
 ·refine Zg (fun _=>hk.1) fun h1=>?_
  by_cases h2:200<(c.note.size:Int)
  ·rw [decide_eq_true h2];exact hk.1
  ·rw [decide_eq_false h2];exact hk.2 (by omega) (by omega)
theorem RevOK.mono {c q c' q':Int} {r:Revision} (h:RevOK c q r) (hc:c≤c') (hq:q≤q'):RevOK c' q' r:=⟨h.text,h.note,h.user,h.minute0,Int.le_trans h.minute1 hc,h.seq0,Int.le_trans h.seq1 hq⟩
theorem HistOK.mono' {c q c' q':Int} {l:List Revision} (h:HistOK c q l) (hc:c≤c') (hq:q≤q'):HistOK c' q' l:=⟨h.len1,h.len2,h.num,fun r hr=>(h.all r hr).mono hc hq,h.mono⟩
theorem StoOK.mono {c q c' q':Int} {p:Stored} (h:StoOK c q p) (hc:c≤c') (hq:q≤q'):StoOK c' q' p:=⟨h.title,h.hist.mono' hc hq⟩
theorem PropOK.mono {c t c' t':Int} {p:Proposal} (h:PropOK c t p) (hc:c≤c') (ht:t≤t'):PropOK c' t' p:=⟨Int.le_trans h.id1 ht,h.user,h.title,h.base0,h.base1,h.text,h.note,h.minute0,Int.le_trans h.minute1 hc⟩
theorem VS.mono {t0:ByteArray} {q q':Int} {s:State} (h:VS t0 q s) (hq:q≤q'):VS t0 q' s:=
 ⟨h.seq0,h.clock0,h.clock1,h.plen,h.glen,fun p hp=>(h.pages p hp).mono (Int.le_refl _) hq,fun p hp=>(h.gone p hp).mono (Int.le_refl _) hq,h.sorted,h.rule,h.prlen,h.prop0,h.prop1,h.props,h.ids,h.prsort,h.wlen,h.watches,h.wsort,h.llen,fun w hw=>⟨(h.lasts w hw).1,(h.lasts w hw).2.1,Int.le_trans (h.lasts w hw).2.2 hq⟩,h.lsort⟩
theorem VS.withPages {t0:ByteArray} {q:Int} {s:State} (h:VS t0 q s) {l:List Stored} (h1:l.length≤200) (h2:∀ p ∈ l,StoOK s.clock q p) (h3:l.Pairwise fun a b=>tlt a.title b.title) (h4:∀ p ∈ l,p.title=policyT→Zkg p=t0):VS t0 q ⟨s.seq,s.clock,l,s.gone,s.proposals,s.proposed,s.watches,s.lasts⟩:=
 ⟨h.seq0,h.clock0,h.clock1,h1,h.glen,h2,h.gone,h3,h4,h.prlen,h.prop0,h.prop1,h.props,h.ids,h.prsort,h.wlen,h.watches,h.wsort,h.llen,h.lasts,h.lsort⟩
theorem VS.withGone {t0:ByteArray} {q:Int} {s:State} (h:VS t0 q s) {l:List Stored} (h1:l.length≤100) (h2:∀ p ∈ l,StoOK s.clock q p):VS t0 q ⟨s.seq,s.clock,s.pages,l,s.proposals,s.proposed,s.watches,s.lasts⟩:=
 ⟨h.seq0,h.clock0,h.clock1,h.plen,h1,h.pages,h2,h.sorted,h.rule,h.prlen,h.prop0,h.prop1,h.props,h.ids,h.prsort,h.wlen,h.watches,h.wsort,h.llen,h.lasts,h.lsort⟩
theorem VS.withProps {t0:ByteArray} {q:Int} {s:State} (h:VS t0 q s) {l:List Proposal} (hs:l.Sublist s.proposals):VS t0 q ⟨s.seq,s.clock,s.pages,s.gone,l,s.proposed,s.watches,s.lasts⟩:=
 ⟨h.seq0,h.clock0,h.clock1,h.plen,h.glen,h.pages,h.gone,h.sorted,h.rule,Nat.le_trans hs.length_le h.prlen,h.prop0,h.prop1,fun p hp=>h.props p (hs.subset hp),fun p hp=>h.ids p (hs.subset hp),h.prsort.sublist hs,h.wlen,h.watches,h.wsort,h.llen,h.lasts,h.lsort⟩
def Zkj (t0:ByteArray) (q:Int) (s:State) (r:State×Int):Prop:=r.2=0→VS t0 q r.1∧r.1.seq=s.seq∧s.clock≤r.1.clock∧r.1.clock≤s.clock+2000
theorem Zcs {t0:ByteArray} {q:Int} {s:State} {r:State×Int} (h:VS t0 q r.1) (h1:r.1.seq=s.seq) (h2:r.1.clock=s.clock):Zkj t0 q s r:=fun _=>⟨h,h1,by omega,by omega⟩
theorem Za2 {t0:ByteArray} {q:Int} {s s':State} {e:Int} (h:e≠0):Zkj t0 q s (s',e):=by
 unfold Zkj
 intro h'
 exact absurd h' h
theorem Zmc {t0:ByteArray} {q clock:Int} {l:List Stored} {p:Stored} {n:Nat} (h2:∀ p ∈ l,StoOK clock q p) (h3:l.Pairwise fun a b=>tlt a.title b.title) (h4:∀ p ∈ l,p.title=policyT→Zkg p=t0)
  (hp:StoOK clock q p) (hne:∀ y ∈ l,y.title≠p.title) (hr:p.title≠policyT) (i1:∀ y ∈ l.take n,tlt y.title p.title) (i2:∀ y,l[n]? = some y→¬ tlt y.title p.title) :
  (∀ y ∈ l.take n++p::l.drop n,StoOK clock q y)∧((l.take n++p::l.drop n).Pairwise fun a b=>tlt a.title b.title)∧∀ y ∈ l.take n++p::l.drop n,y.title=policyT→Zkg y=t0:=by
 have tr:∀ a b c:Stored,tlt a.title b.title→tlt b.title c.title→tlt a.title c.title:=fun a b c k1 k2=>Zgc k1 k2
 have h5:∀ y,l[n]? = some y→tlt p.title y.title:=fun y hy=>(Zj7 (hne y (List.mem_of_getElem? hy))).resolve_left (i2 y hy)
 have h6:(l.take n++p::l.drop n).Pairwise fun a b:Stored=>tlt a.title b.title:=Zil (lt:=fun a b:Stored=>tlt a.title b.title) tr h3 i1 h5
 refine ⟨fun y hy=>?_,h6,fun y hy e=>?_⟩
 ·rcases Zj8 hy with rfl | hy
  ·exact hp
  ·exact h2 y hy
 ·rcases Zj8 hy with rfl | hy
  ·exact absurd e hr
  ·exact h4 y hy e
theorem Ztw {t0:ByteArray} {q:Int} {s:State} (h:VS t0 q s) (hq:1≤q) {t:Title} {u no tx:ByteArray} (ht:t.valid=true) (hu:ZcQ u=true) (h1:tx.size≤8192) (h2:no.size≤200):StoOK s.clock q ⟨t,[⟨1,u,no,tx,s.clock,q⟩]⟩:=
 ⟨ht,by simp,by simp,fun i r hr=>by
  cases i with
  | zero=>injection hr with hr;subst hr;rfl
  | succ i=>simp at hr,fun r hr=>by
  simp at hr
  subst hr
  exact ⟨h1,h2,hu,h.clock0,Int.le_refl _,hq,Int.le_refl _⟩,List.pairwise_singleton ..⟩
theorem ZwC {t0:ByteArray} {q:Int} {s:State} {c:Change} (h:VS t0 q s) (hq:1≤q) (hv:CV c) (ht:c.title.valid=true) (hne:c.title≠policyT):Tot (Zg3 s c q) (Zkj t0 q s):=by
 have hl:=h.plen
 unfold Zg3
 refine Zi (Zgj s.pages c.title (by omega)) fun r hr=>?_
 rcases hr with ⟨rfl,hno⟩ | ⟨n,p,rfl,hp,hpt⟩
 ·refine Zg (fun _=>?_) fun hc=>absurd (by omega) hc
  refine Zg (fun _=>Zc (Za2 (by decide))) fun hlt=>?_
  refine Zi (Zdc s.pages _ (by omega)) fun r hr=>?_
  obtain ⟨n,hn,rfl,i1,i2⟩:=hr
  obtain ⟨o1,o2,o3⟩:=Zmc h.pages h.sorted h.rule (Ztw h hq ht hv.user hv.text hv.note) hno hne i1 i2
  exact Zc (Zcs (h.withPages (by rw [Zhg hn];omega) o1 o2 o3) rfl rfl)
 ·refine Zg (fun hc=>absurd hc (by omega)) fun _=>?_
  have hn:=(List.getElem?_eq_some_iff.1 hp).1
  refine ZF (by omega) (by omega) fun e he hg=>?_
  rw [Int.toNat_natCast,hp] at hg
  injection hg with hg
  subst hg
  have hst:=h.pages p he
  have hl2:=hst.hist.len2
  refine Zg (fun _=>Zc (Za2 (by decide))) fun hlt=>?_
  refine ZZ 2000000 (by simp;omega) (by decide) (by decide) ?_
  refine ZZ 2000000 (by simp;omega) (by decide) (by decide) ?_
  refine ZZ 2000000 (by simp;omega) (by decide) (by decide) ?_
  rw [Zih,Zih]
  refine ZF (by omega) (by omega) fun e8 _ hg8=>?_
  rw [Int.toNat_natCast,hp] at hg8
  injection hg8 with hg8
  subst hg8
  have e1:w64 ((p.history.length:Int)+1)=(p.history.length:Int)+1:=Zs (by omega) (by omega)
  rw [e1]
  unfold ZbI
  rw [Int.toNat_natCast]
  have hnew:StoOK s.clock q ⟨p.title,p.history ++ [⟨(p.history.length:Int)+1,c.user,c.note,c.text,s.clock,q⟩]⟩:=by
   refine ⟨hst.title,by simp,by simp;omega,fun i r hr=>?_,fun r hr=>?_,?_⟩
   ·rcases Nat.lt_or_ge i p.history.length with hi | hi
    ·rw [List.getElem?_append_left hi] at hr
     exact hst.hist.num i r hr
    ·rw [List.getElem?_append_right hi] at hr
     have:i - p.history.length=0:=by
      have:=(List.getElem?_eq_some_iff.1 hr).1
      simp at this
      omega
     rw [this] at hr
     injection hr with hr
     subst hr
     show (p.history.length:Int)+1=_
     omega
   ·rcases List.mem_append.1 hr with hr | hr
    ·exact hst.hist.all r hr
    ·simp at hr
     subst hr
     exact ⟨hv.text,hv.note,hv.user,h.clock0,Int.le_refl _,hq,Int.le_refl _⟩
   ·refine List.pairwise_append.2 ⟨hst.hist.mono,List.pairwise_singleton ..,fun a ha b hb=>?_⟩
    simp at hb
    subst hb
    exact ⟨(hst.hist.all a ha).minute1,(hst.hist.all a ha).seq1⟩
  refine Zc (Zcs (h.withPages (by simpa using hl) (fun y hy=>?_) ?_ fun y hy e=>?_) rfl rfl)
  ·rcases List.mem_or_eq_of_mem_set hy with hy | rfl
   ·exact h.pages y hy
   ·exact hnew
  ·have hs:=h.sorted
   have key:(s.pages.set n ⟨p.title,p.history ++ [⟨(p.history.length:Int)+1,c.user,c.note,c.text,s.clock,q⟩]⟩).map (·.title)=s.pages.map (·.title):=by
    rw [List.map_set]
    apply List.ext_getElem?
    intro j
    rw [List.getElem?_set]
    split
    ·rename_i hj
     subst hj
     have hpe:=(List.getElem?_eq_some_iff.1 hp).2
     simp [hn,hpe]
    ·rfl
   rw [← List.pairwise_map (f:=Stored.title) (R:=tlt)] at hs ⊢
   rw [key]
   exact hs
  ·rcases List.mem_or_eq_of_mem_set hy with hy | rfl
   ·exact h.rule y hy e
   ·exact absurd (hpt.symm.trans e) hne
theorem ZwD {l:List Stored} (h:l.Pairwise fun a b=>tlt a.title b.title) {n:Nat} {p y:Stored} (hp:l[n]? = some p) (hy:y ∈ l.take n++l.drop (n+1)):y.title≠p.title:=by
 intro e
 rcases List.mem_append.1 hy with hy | hy
 ·obtain ⟨j,hj⟩:=List.getElem?_of_mem hy
  rw [List.getElem?_take] at hj
  split at hj
  ·have:=ZhQ h (by assumption) hj hp
   rw [e] at this
   exact Zbf _ this
  ·cases hj
 ·obtain ⟨j,hj⟩:=List.getElem?_of_mem hy
  rw [List.getElem?_drop] at hj
  have:=ZhQ h (by omega) hp hj
  rw [e] at this
  exact Zbf _ this
theorem Zr4 {t0:ByteArray} {q:Int} {s:State} {c:Change} (h:VS t0 q s):Tot (ZcY s c) (Zkj t0 q s):=by
 have hl:=h.plen
 have hg:=h.glen
 have hpr:=h.prlen
 unfold ZcY
 refine Zi (Zgj s.pages c.title (by omega)) fun r hr=>?_
 rcases hr with ⟨rfl,hno⟩ | ⟨n,p,rfl,hp,hpt⟩
 ·refine Zg (fun _=>Zc (Za2 (by decide))) fun hc=>absurd (by omega) hc
 ·refine Zg (fun hc=>absurd hc (by omega)) fun _=>?_
  have hn:=(List.getElem?_eq_some_iff.1 hp).1
  refine Zg (fun _=>Zc (Za2 (by decide))) fun hlt=>?_
  refine ZZ 2000000 (by simp;omega) (by decide) (by decide) ?_
  refine ZF (by omega) (by omega) fun e he hg'=>?_
  refine ZZ 2000000 (by simp;omega) (by decide) (by decide) ?_
  refine Zd (Zga s.pages n hn (by omega)) ?_
  refine Zi (ZtF s.proposals c.title (by omega)) fun d hd=>?_
  rw [Zih]
  have h1:=h.withPages (l:=s.pages.take n++s.pages.drop (n+1)) (by have:=ZlZ hn;omega) (fun y hy=>h.pages y (Zhf hy)) (h.sorted.sublist (Zfq _ _)) fun y hy=>h.rule y (Zhf hy)
  have h2:=h1.withGone (l:=s.gone ++ [e]) (by simp;omega) (fun y hy=>by
   rcases List.mem_append.1 hy with hy | hy
   ·exact h.gone y hy
   ·simp at hy
    subst hy
    exact h.pages _ he)
  exact Zc (Zcs (h2.withProps hd) rfl rfl)
theorem Zp7 {t0:ByteArray} {q:Int} {s:State} {c:Change} (h:VS t0 q s) (hne:c.title≠policyT):Tot (Zcc s c) (Zkj t0 q s):=by
 have hl:=h.plen
 have hg:=h.glen
 unfold Zcc
 refine Zi (ZkY s c.title (by omega)) fun i hi=>?_
 refine Zi (Zgj s.pages c.title (by omega)) fun r hr=>?_
 rcases hr with ⟨rfl,hno⟩ | ⟨n,p,rfl,hp,hpt⟩
 ·refine Zg (fun hc=>absurd hc (by omega)) fun _=>?_
  rcases hi with rfl | ⟨n,p,rfl,hp,hpt⟩
  ·exact Zg (fun _=>Zc (Za2 (by decide))) fun hc=>absurd (by omega) hc
  ·refine Zg (fun hc=>absurd hc (by omega)) fun _=>?_
   refine Zg (fun _=>Zc (Za2 (by decide))) fun hlt=>?_
   have hn:=(List.getElem?_eq_some_iff.1 hp).1
   refine ZF (by omega) (by omega) fun e he hg'=>?_
   rw [Int.toNat_natCast,hp] at hg'
   injection hg' with hg'
   subst hg'
   refine Zi (Zdc s.pages p (by omega)) fun r hr=>?_
   obtain ⟨m,hm,rfl,i1,i2⟩:=hr
   refine Zd (Zga s.gone n hn (by omega)) ?_
   obtain ⟨o1,o2,o3⟩:=Zmc h.pages h.sorted h.rule (h.gone p he) (by rw [hpt];exact hno) (by rw [hpt];exact hne) i1 i2
   have h1:=h.withPages (by rw [Zhg hm];omega) o1 o2 o3
   exact Zc (Zcs (h1.withGone (l:=s.gone.take n++s.gone.drop (n+1)) (by have:=ZlZ hn;omega) fun y hy=>h.gone y (Zhf hy)) rfl rfl)
 ·exact Zg (fun _=>Zc (Za2 (by decide))) fun hc=>absurd (by omega) hc
theorem ZvA {t0:ByteArray} {q:Int} {s:State} {c:Change} (h:VS t0 q s) (hq:1≤q) (hv:CV c) (ht:c.title.valid=true) (hto:c.to.valid=true) (hne:c.title≠policyT) (hne2:c.to≠policyT):Tot (Zfh s c q) (Zkj t0 q s):=by
 have hl:=h.plen
 have hpr:=h.prlen
 unfold Zfh
 refine Zi (Zgj s.pages c.title (by omega)) fun r hr=>?_
 rcases hr with ⟨rfl,hno⟩ | ⟨n,p,rfl,hp,hpt⟩
 ·refine Zg (fun _=>Zc (Za2 (by decide))) fun hc=>absurd (by omega) hc
 ·refine Zg (fun hc=>absurd hc (by omega)) fun _=>?_
  have hn:=(List.getElem?_eq_some_iff.1 hp).1
  have hmem:=List.mem_of_getElem? hp
  refine Zi (Zgj s.pages c.to (by omega)) fun r hr=>?_
  rcases hr with ⟨rfl,hno⟩ | ⟨n',p',rfl,hp',hpt'⟩
  ·refine Zg (fun hc=>absurd hc (by omega)) fun _=>?_
   have hdiff:c.to≠c.title:=fun e=>hno p hmem (hpt.trans e.symm)
   refine ZO (fun k=>Tot (k true) (Zkj t0 q s)∧((c.n=1→s.pages.length<200)→Tot (k false) (Zkj t0 q s))) ⟨Zal rfl (Zc (Za2 (by decide))),fun hlen=>?_⟩ fun k hk=>?_
   ·refine ZD rfl ?_
    refine ZF (by omega) (by omega) fun e he hg'=>?_
    rw [Int.toNat_natCast,hp] at hg'
    injection hg' with hg'
    subst hg'
    refine Zd (Zga s.pages n hn (by omega)) ?_
    have hd1:=ZlZ hn
    refine Zi (Zdc _ _ (by omega)) fun r hr=>?_
    obtain ⟨m,hm,rfl,i1,i2⟩:=hr
    have hst:=h.pages p he
    obtain ⟨o1,o2,o3⟩:=Zmc (t0:=t0) (q:=q) (clock:=s.clock) (l:=s.pages.take n++s.pages.drop (n+1)) (fun y hy=>h.pages y (Zhf hy)) (h.sorted.sublist (Zfq _ _)) (fun y hy=>h.rule y (Zhf hy)) (p:=⟨c.to,p.history⟩) ⟨hto,hst.hist⟩ (fun y hy=>hno y (Zhf hy)) hne2 i1 i2
    have hmemI:∀ y ∈ (s.pages.take n++s.pages.drop (n+1)).take m++(⟨c.to,p.history⟩:Stored)::(s.pages.take n++s.pages.drop (n+1)).drop m,y.title≠c.title:=fun y hy=>by
     rcases Zj8 hy with rfl | hy
     ·exact hdiff
     ·rw [← hpt]
      exact ZwD h.sorted hp hy
    have hlenI:=Zhg (x:=(⟨c.to,p.history⟩:Stored)) hm
    generalize (s.pages.take n++s.pages.drop (n+1)).take m++(⟨c.to,p.history⟩:Stored)::(s.pages.take n++s.pages.drop (n+1)).drop m=L at *
    refine ZO (fun k=>∀ L':List Stored,L'.length≤200→(∀ p ∈ L',StoOK s.clock q p)→(L'.Pairwise fun a b=>tlt a.title b.title)→(∀ p ∈ L',p.title=policyT→Zkg p=t0)→Tot (k L') (Zkj t0 q s)) (fun L' a1 a2 a3 a4=>?_) fun k hk=>?_
    ·refine Zi (ZtF s.proposals c.title (by omega)) fun d hd=>?_
     exact Zc (Zcs ((h.withPages a1 a2 a3 a4).withProps hd) rfl rfl)
    ·refine Zg (fun h1=>?_) fun h1=>hk L (by omega) o1 o2 o3
     have:=hlen h1
     refine Zi (ZpQ c.to hto) fun x hx=>?_
     refine Zi (Zdc L _ (by omega)) fun r hr=>?_
     obtain ⟨m2,hm2,rfl,j1,j2⟩:=hr
     obtain ⟨w1,w2,w3⟩:=Zmc o1 o2 o3 (Ztw h hq ht hv.user hx (by decide)) hmemI hne j1 j2
     exact hk _ (by rw [Zhg hm2];omega) w1 w2 w3
   ·refine Zg (fun h1=>?_) fun h1=>hk.2 fun e=>absurd e h1
    by_cases h2:200≤(s.pages.length:Int)
    ·rw [decide_eq_true h2];exact hk.1
    ·rw [decide_eq_false h2];exact hk.2 fun _=>by omega
  ·exact Zg (fun _=>Zc (Za2 (by decide))) fun hc=>absurd (by omega) hc
theorem ZvB {t0:ByteArray} {q:Int} {s:State} {c:Change} (h:VS t0 q s) (hq:1≤q) (hv:CV c) (hi:ImpOK c.history) (ht:c.title.valid=true) (hne:c.title≠policyT):Tot (Zfe s c q) (Zkj t0 q s):=by
 have hl:=h.plen
 have hi1:=hi.len1
 have hi2:=hi.len2
 unfold Zfe
 refine Zi (Zgj s.pages c.title (by omega)) fun r hr=>?_
 rcases hr with ⟨rfl,hno⟩ | ⟨n,p,rfl,hp,hpt⟩
 ·refine Zg (fun hc=>absurd hc (by omega)) fun _=>?_
  rw [Zs (by omega) (by omega)]
  refine ZF (by omega) (by omega) fun e he hge=>?_
  rw [show ((c.history.length:Int) - 1).toNat=c.history.length - 1 by omega] at hge
  refine Zg (fun _=>Zc (Za2 (by decide))) fun hcl=>?_
  refine Zg (fun _=>Zc (Za2 (by decide))) fun hlt=>?_
  refine ZZ 2000000 (by simp;omega) (by decide) (by decide) ?_
  rw [Zih]
  have hmin:∀ r ∈ c.history,r.minute≤s.clock:=fun r hr=>by
   obtain ⟨j,hj⟩:=List.getElem?_of_mem hr
   have hjl:=(List.getElem?_eq_some_iff.1 hj).1
   rcases Nat.lt_or_ge j (c.history.length - 1) with hjj | hjj
   ·have:=ZhQ hi.mono hjj hj hge
    omega
   ·have:j=c.history.length - 1:=by omega
    rw [this,hge] at hj
    injection hj with hj
    rw [← hj]
    omega
  refine ZH (fun a:Int×List Revision=>∃ n:Nat,a.1=n∧n≤c.history.length∧a.2.length=c.history.length∧∀ (j:Nat),a.2[j]? = (c.history[j]?).map fun r=>if j<n then ⟨r.number,r.user,r.note,r.text,r.minute,q⟩ else r) (fun a=>((c.history.length:Int) - a.1).toNat) ⟨0,rfl,Nat.zero_le _,rfl,fun j=>by simp⟩ (by first | omega | (dsimp only;omega)) ?_
  rintro ⟨i,out⟩ rec ⟨n,hin,hn,hlen,hget⟩ ih
  dsimp only at hin hlen hget
  subst hin
  refine Zg (fun hlt2=>?_) fun hlt2=>?_
  ·refine ZF (by omega) hlt2 fun x hx hgx=>?_
   rw [Int.toNat_natCast] at hgx
   rw [Zs (by omega) (by omega)]
   refine ih _ ⟨n+1,by dsimp only;omega,by omega,by unfold ZbI;simpa using hlen,fun j=>?_⟩ (by first | omega | (dsimp only;omega))
   unfold ZbI
   rw [Int.toNat_natCast,List.getElem?_set]
   have hx2:=hget n
   rw [hgx] at hx2
   split
   ·rename_i hj
    subst hj
    cases hc:c.history[n]? with
    | none=>rw [hc] at hx2;cases hx2
    | some y=>
      rw [hc] at hx2
      simp at hx2
      subst hx2
      rw [if_pos (by omega)]
      simp
   ·rename_i hj
    rw [hget j]
    congr 1
    funext r
    by_cases hjn:j<n
    ·rw [if_pos hjn,if_pos (by omega)]
    ·rw [if_neg hjn,if_neg (by omega)]
  ·have hnn:n=c.history.length:=by omega
   have hst:StoOK s.clock q ⟨c.title,out⟩:=by
    have get:∀ (j:Nat) r,out[j]? = some r→∃ r0,c.history[j]? = some r0∧r=⟨r0.number,r0.user,r0.note,r0.text,r0.minute,q⟩:=fun j r hr=>by
     rw [hget j] at hr
     cases hc:c.history[j]? with
     | none=>rw [hc] at hr;cases hr
     | some y=>
       have:=(List.getElem?_eq_some_iff.1 hc).1
       rw [hc] at hr
       simp only [Option.map_some,if_pos (show j<n by omega),Option.some.injEq] at hr
       exact ⟨y,rfl,hr.symm⟩
    refine ⟨ht,by rw [hlen];exact hi1,by rw [hlen];exact hi2,fun j r hr=>?_,fun r hr=>?_,?_⟩
    ·obtain ⟨r0,h1,rfl⟩:=get j r hr
     exact hi.num j r0 h1
    ·obtain ⟨j,hj⟩:=List.getElem?_of_mem hr
     obtain ⟨r0,h1,rfl⟩:=get j r hj
     have hm:=List.mem_of_getElem? h1
     exact ⟨(hv.hist r0 hm).1,(hv.hist r0 hm).2,(hi.user r0 hm).1,(hi.user r0 hm).2,hmin r0 hm,hq,Int.le_refl _⟩
    ·rw [List.pairwise_iff_getElem]
     intro a b ha hb hab
     obtain ⟨ra,h1,e1⟩:=get a _ (List.getElem?_eq_getElem ha)
     obtain ⟨rb,h2,e2⟩:=get b _ (List.getElem?_eq_getElem hb)
     have:=ZhQ hi.mono hab h1 h2
     rw [e1,e2]
     exact ⟨this,Int.le_refl _⟩
   refine Zi (Zdc s.pages _ (by omega)) fun r hr=>?_
   obtain ⟨m,hm,rfl,i1,i2⟩:=hr
   obtain ⟨o1,o2,o3⟩:=Zmc h.pages h.sorted h.rule hst hno hne i1 i2
   exact Zc (Zcs (h.withPages (by rw [Zhg hm];omega) o1 o2 o3) rfl rfl)
 ·exact Zg (fun _=>Zc (Za2 (by decide))) fun hc=>absurd (by omega) hc
theorem ZrI {a b c:Watch} (h:wlt a b) (k:wlt b c):wlt a c:=by
 rcases h with h | ⟨h1,h2⟩<;>rcases k with k | ⟨k1,k2⟩
 ·exact .inl (Zij h k)
 ·exact .inl (k1 ▸ h)
 ·exact .inl (h1 ▸ k)
 ·exact .inr ⟨h1.trans k1,Zgc h2 k2⟩
theorem ZrJ {a b:Watch} (h:a≠b):wlt a b∨wlt b a:=by
 by_cases e:a.user=b.user
 ·rcases Zj7 (a:=a.title) (b:=b.title) (fun e2=>h (by cases a;cases b;simp_all)) with h2 | h2
  ·exact .inl (.inr ⟨e,h2⟩)
  ·exact .inr (.inr ⟨e.symm,h2⟩)
 ·rcases Zik e with h2 | h2
  ·exact .inl (.inl h2)
  ·exact .inr (.inl h2)
theorem ZrK {u:ByteArray} (h:ZcQ u=true) (h0:u≠⟨#[]⟩):Zb2 u=true:=by
 unfold ZcQ at h
 rw [decide_eq_false h0] at h
 simpa using h
theorem VS.withWatches {t0:ByteArray} {q:Int} {s:State} (h:VS t0 q s) {l:List Watch} (h1:l.length≤100) (h2:∀ w ∈ l,Zb2 w.user=true∧w.title.valid=true) (h3:l.Pairwise wlt):VS t0 q ⟨s.seq,s.clock,s.pages,s.gone,s.proposals,s.proposed,l,s.lasts⟩:=
 ⟨h.seq0,h.clock0,h.clock1,h.plen,h.glen,h.pages,h.gone,h.sorted,h.rule,h.prlen,h.prop0,h.prop1,h.props,h.ids,h.prsort,h1,h2,h3,h.llen,h.lasts,h.lsort⟩
theorem VS.withLasts {t0:ByteArray} {q:Int} {s:State} (h:VS t0 q s) {l:List Last} (h1:l.length≤60) (h2:∀ w ∈ l,Zb2 w.user=true∧1≤w.seq∧w.seq≤q) (h3:l.Pairwise fun a b=>Zi2 a.user b.user):VS t0 q ⟨s.seq,s.clock,s.pages,s.gone,s.proposals,s.proposed,s.watches,l⟩:=
 ⟨h.seq0,h.clock0,h.clock1,h.plen,h.glen,h.pages,h.gone,h.sorted,h.rule,h.prlen,h.prop0,h.prop1,h.props,h.ids,h.prsort,h.wlen,h.watches,h.wsort,h1,h2,h3⟩
theorem Ztt (a b c:Watch) (h1:wlt a b) (h2:wlt b c):wlt a c:=ZrI h1 h2
theorem Zu8 {t0:ByteArray} {q:Int} {s:State} {c:Change} (h:VS t0 q s) (hu:Zb2 c.user=true) (ht:c.title.valid=true):Tot (ZdY s c) (Zkj t0 q s):=by
 have hl:=h.wlen
 unfold ZdY
 refine ZH (fun a:Int×List Watch=>∃ n:Nat,a.1=n∧n≤s.watches.length∧a.2=s.watches.take n∧∀ y ∈ s.watches.take n,wlt y ⟨c.user,c.title⟩) (fun a=>((s.watches.length:Int) - a.1).toNat) ⟨0,rfl,Nat.zero_le _,rfl,fun y h=>by simp at h⟩ (by first | omega | (dsimp only;omega)) ?_
 rintro ⟨i,out⟩ rec ⟨n,hi,hn,ho,hlt⟩ ih
 dsimp only at hi ho
 subst hi ho
 refine ZO (fun k=>(∀ e,s.watches[n]? = some e→wlt e ⟨c.user,c.title⟩→Tot (k true) (Zkj t0 q s))∧((∀ y,s.watches[n]? = some y→¬ wlt y ⟨c.user,c.title⟩)→Tot (k false) (Zkj t0 q s))) ⟨fun e he hep=>?_,fun hne=>?_⟩ fun k hk=>?_
 ·have hln:=(List.getElem?_eq_some_iff.1 he).1
  refine Zal rfl ?_
  refine ZF (by omega) (by omega) fun e' _ hg'=>?_
  rw [Int.toNat_natCast,he] at hg'
  injection hg' with hg'
  subst hg'
  refine ZZ 2000000 (by simp;omega) (by decide) (by decide) ?_
  rw [Zb5 he,Zs (by omega) (by omega)]
  refine ih _ ⟨n+1,by dsimp only;omega,hln,rfl,fun y hy=>?_⟩ (by first | omega | (dsimp only;omega))
  rw [← Zb5 he] at hy
  rcases List.mem_append.1 hy with hy | hy
  ·exact hlt y hy
  ·simp at hy
   rw [hy]
   exact hep
 ·refine ZD rfl ?_
  refine ZO (fun k=>(n<s.watches.length→Tot (k true) (Zkj t0 q s))∧((∀ y,s.watches[n]? = some y→y≠⟨c.user,c.title⟩)→Tot (k false) (Zkj t0 q s))) ⟨fun hnl=>?_,fun hnw=>?_⟩ fun k hk=>?_
  ·refine Zg (fun _=>?_) fun _=>?_
   ·refine ZD rfl ?_
    rw [Zs (by omega) (by omega)]
    refine Zd (ZeQ s.watches (n:=n+1) (by omega) hnl) ?_
    refine ZZ 2000000 (by simp;omega) (by decide) (by decide) ?_
    exact Zc (Zcs (h.withWatches (by have:=ZlZ hnl;omega) (fun y hy=>h.watches y (Zhf hy)) (h.wsort.sublist (Zfq _ _))) rfl rfl)
   ·exact Zal rfl (Zc (Za2 (by decide)))
  ·refine Zg (fun _=>?_) fun _=>?_
   ·exact Zal rfl (Zc (Za2 (by decide)))
   ·refine ZD rfl ?_
    refine Zg (fun _=>Zc (Za2 (by decide))) fun hlen=>?_
    refine ZZ 2000000 (by simp;omega) (by decide) (by decide) ?_
    refine Zd (ZeQ s.watches rfl hn) ?_
    refine ZZ 2000000 (by simp;omega) (by decide) (by decide) ?_
    rw [List.append_assoc]
    refine Zc (Zcs (h.withWatches ?_ (fun y hy=>?_) (Zil (lt:=wlt) (x:=⟨c.user,c.title⟩) Ztt h.wsort hlt fun y hy=>(ZrJ (hnw y hy)).resolve_left (hne y hy))) rfl rfl)
    ·have:=Zhg (x:=(⟨c.user,c.title⟩:Watch)) hn
     simp only [List.cons_append,List.nil_append]
     omega
    ·rcases Zj8 hy with rfl | hy
     ·exact ⟨hu,ht⟩
     ·exact h.watches y hy
  ·refine Zg (fun h1=>?_) fun h1=>hk.2 fun y hy=>?_
   ·refine ZF (by omega) h1 fun e _ hg=>?_
    rw [Int.toNat_natCast] at hg
    by_cases he:e=⟨c.user,c.title⟩
    ·rw [decide_eq_true he]
     exact hk.1 (by omega)
    ·rw [decide_eq_false he]
     refine hk.2 fun y hy=>?_
     rw [hg] at hy
     injection hy with hy
     rw [← hy]
     exact he
   ·have:=(List.getElem?_eq_some_iff.1 hy).1
    omega
 ·refine Zg (fun h1=>?_) fun h1=>hk.2 fun y hy=>?_
  ·refine ZF (by omega) h1 fun e _ hg=>?_
   rw [Int.toNat_natCast] at hg
   refine Zi (Zo2 e ⟨c.user,c.title⟩) fun b hb=>?_
   cases b
   ·refine hk.2 fun y hy=>?_
    rw [hg] at hy
    injection hy with hy
    rw [← hy]
    intro hw
    have:=hb.2 hw
    cases this
   ·exact hk.1 e hg (hb.1 rfl)
  ·have:=(List.getElem?_eq_some_iff.1 hy).1
   omega
theorem Zu9 (a b c:Last) (h1:Zi2 a.user b.user) (h2:Zi2 b.user c.user):Zi2 a.user c.user:=Zij h1 h2
theorem ZrL {t0:ByteArray} {q:Int} {s:State} {u:ByteArray} (h:VS t0 q s) (hq:1≤q) (hu:ZcQ u=true):Tot (ZdS s u q) fun r=>r.2=0→VS t0 q r.1∧r.1.seq=s.seq∧r.1.clock=s.clock:=by
 have hl:=h.llen
 unfold ZdS
 refine Zg (fun _=>Zc fun _=>⟨h,rfl,rfl⟩) fun h0=>?_
 have hn0:=ZrK hu h0
 refine ZH (fun a:Int×List Last=>∃ n:Nat,a.1=n∧n≤s.lasts.length∧a.2=s.lasts.take n∧∀ y ∈ s.lasts.take n,Zi2 y.user u) (fun a=>((s.lasts.length:Int) - a.1).toNat) ⟨0,rfl,Nat.zero_le _,rfl,fun y h=>by simp at h⟩ (by first | omega | (dsimp only;omega)) ?_
 rintro ⟨i,out⟩ rec ⟨n,hi,hn,ho,hlt⟩ ih
 dsimp only at hi ho
 subst hi ho
 refine ZO (fun k=>(∀ e,s.lasts[n]? = some e→Zi2 e.user u→Tot (k true) fun r=>r.2=0→VS t0 q r.1∧r.1.seq=s.seq∧r.1.clock=s.clock)∧((∀ y,s.lasts[n]? = some y→¬ Zi2 y.user u)→Tot (k false) fun r=>r.2=0→VS t0 q r.1∧r.1.seq=s.seq∧r.1.clock=s.clock)) ⟨fun e he hep=>?_,fun hne=>?_⟩ fun k hk=>?_
 ·have hln:=(List.getElem?_eq_some_iff.1 he).1
  refine Zal rfl ?_
  refine ZF (by omega) (by omega) fun e' _ hg'=>?_
  rw [Int.toNat_natCast,he] at hg'
  injection hg' with hg'
  subst hg'
  refine ZZ 2000000 (by simp;omega) (by decide) (by decide) ?_
  rw [Zb5 he,Zs (by omega) (by omega)]
  refine ih _ ⟨n+1,by dsimp only;omega,hln,rfl,fun y hy=>?_⟩ (by first | omega | (dsimp only;omega))
  rw [← Zb5 he] at hy
  rcases List.mem_append.1 hy with hy | hy
  ·exact hlt y hy
  ·simp at hy
   rw [hy]
   exact hep
 ·refine ZD rfl ?_
  refine ZO (fun k=>(∀ e,s.lasts[n]? = some e→e.user=u→Tot (k true) fun r=>r.2=0→VS t0 q r.1∧r.1.seq=s.seq∧r.1.clock=s.clock)∧((∀ y,s.lasts[n]? = some y→y.user≠u)→Tot (k false) fun r=>r.2=0→VS t0 q r.1∧r.1.seq=s.seq∧r.1.clock=s.clock)) ⟨fun e he heu=>?_,fun hnw=>?_⟩ fun k hk=>?_
  ·have hln:=(List.getElem?_eq_some_iff.1 he).1
   refine Zam ?_
   refine ZD rfl ?_
   refine ZD rfl ?_
   refine ZZ 2000000 (by simp;omega) (by decide) (by decide) ?_
   refine Zam ?_
   refine Zal rfl ?_
   rw [Zs (by omega) (by omega)]
   refine Zd (ZeQ s.lasts (n:=n+1) (by omega) hln) ?_
   refine ZZ 2000000 (by simp;omega) (by decide) (by decide) ?_
   rw [List.append_assoc]
   refine Zc fun _=>⟨h.withLasts ?_ (fun y hy=>?_) (ZpT (lt:=fun a b:Last=>Zi2 a.user b.user) (x:=⟨u,q⟩) (y:=e) h.lsort he (fun z hz=>by rw [heu] at hz;exact hz) (fun z hz=>by rw [heu] at hz;exact hz)),rfl,rfl⟩
   ·simp
    omega
   ·rcases List.mem_append.1 hy with hy | hy
    ·exact h.lasts y (List.mem_of_mem_take hy)
    ·rcases List.mem_cons.1 hy with rfl | hy
     ·exact ⟨hn0,hq,Int.le_refl _⟩
     ·exact h.lasts y (List.mem_of_mem_drop hy)
  ·refine ZO (fun k=>Tot (k true) (fun r=>r.2=0→VS t0 q r.1∧r.1.seq=s.seq∧r.1.clock=s.clock)∧(s.lasts.length<60→Tot (k false) fun r=>r.2=0→VS t0 q r.1∧r.1.seq=s.seq∧r.1.clock=s.clock)) ⟨Zal rfl (Zc fun e=>by cases e),fun hlen=>?_⟩ fun k hk=>?_
   ·refine ZD rfl ?_
    refine ZZ 2000000 (by simp;omega) (by decide) (by decide) ?_
    refine Zam ?_
    refine ZD rfl ?_
    refine Zd (ZeQ s.lasts rfl hn) ?_
    refine ZZ 2000000 (by simp;omega) (by decide) (by decide) ?_
    rw [List.append_assoc]
    refine Zc fun _=>⟨h.withLasts ?_ (fun y hy=>?_) (Zil (lt:=fun a b:Last=>Zi2 a.user b.user) Zu9 h.lsort hlt fun y hy=>(Zik (hnw y hy)).resolve_left (hne y hy)),rfl,rfl⟩
    ·have:=Zhg (x:=(⟨u,q⟩:Last)) hn
     simp only [List.cons_append,List.nil_append]
     omega
    ·rcases Zj8 hy with rfl | hy
     ·exact ⟨hn0,hq,Int.le_refl _⟩
     ·exact h.lasts y hy
   ·refine Zal rfl ?_
    by_cases h2:60≤(s.lasts.length:Int)
    ·rw [decide_eq_true h2];exact hk.1
    ·rw [decide_eq_false h2];exact hk.2 (by omega)
  ·refine Zg (fun h1=>?_) fun h1=>hk.2 fun y hy=>?_
   ·refine ZF (by omega) h1 fun e _ hg=>?_
    rw [Int.toNat_natCast] at hg
    by_cases he:e.user=u
    ·rw [decide_eq_true he]
     exact hk.1 e hg he
    ·rw [decide_eq_false he]
     refine hk.2 fun y hy=>?_
     rw [hg] at hy
     injection hy with hy
     rw [← hy]
     exact he
   ·have:=(List.getElem?_eq_some_iff.1 hy).1
    omega
 ·refine Zg (fun h1=>?_) fun h1=>hk.2 fun y hy=>?_
  ·refine ZF (by omega) h1 fun e _ hg=>?_
   rw [Int.toNat_natCast] at hg
   rcases Bool.eq_false_or_eq_true (ltS e.user u) with hb | hb
   ·rw [hb];exact hk.1 e hg hb
   ·rw [hb]
    refine hk.2 fun y hy=>?_
    rw [hg] at hy
    injection hy with hy
    rw [← hy]
    intro hw
    unfold Zi2 at hw
    rw [hb] at hw
    cases hw
  ·have:=(List.getElem?_eq_some_iff.1 hy).1
   omega
theorem ZrM {t0:ByteArray} {q:Int} {s:State} {c:Change} (h:VS t0 q s) (hv:CV c) (h9:c.kind=9):Tot (Zcb s c) (Zkj t0 q s):=by
 have hl:=h.prlen
 have h0:=h.prop0
 have h1:=h.prop1
 have hn:=hv.prop h9
 have ht:=hv.title (by omega) (by omega)
 unfold Zcb
 refine ZO (fun k=>Tot (k true) (Zkj t0 q s)∧(s.proposals.length<40→s.proposed<1073741824→Tot (k false) (Zkj t0 q s))) ⟨Zal rfl (Zc (Za2 (by decide))),fun a1 a2=>?_⟩ fun k hk=>?_
 ·refine ZD rfl ?_
  refine ZZ 2000000 (by simp;omega) (by decide) (by decide) ?_
  refine ZZ 2000000 (by simp;omega) (by decide) (by decide) ?_
  rw [Zih,Zs (by omega) (by omega)]
  have c0:=h.clock0
  refine Zc (Zcs ⟨h.seq0,h.clock0,h.clock1,h.plen,h.glen,h.pages,h.gone,h.sorted,h.rule,by simp;omega,by show 0≤s.proposed+1;omega,by show s.proposed+1≤_;omega,fun p hp=>?_,fun p hp=>?_,?_,h.wlen,h.watches,h.wsort,h.llen,h.lasts,h.lsort⟩ rfl rfl)
  ·rcases List.mem_append.1 hp with hp | hp
   ·exact (h.props p hp).mono (Int.le_refl _) (by show s.proposed≤s.proposed+1;omega)
   ·simp at hp
    subst hp
    exact ⟨Int.le_refl _,hv.user,ht,hn.1,hn.2,hv.text,hv.note,h.clock0,Int.le_refl _⟩
  ·rcases List.mem_append.1 hp with hp | hp
   ·exact h.ids p hp
   ·simp at hp
    subst hp
    show 1≤s.proposed+1
    omega
  ·refine List.pairwise_append.2 ⟨h.prsort,List.pairwise_singleton ..,fun a ha b hb=>?_⟩
   simp at hb
   subst hb
   have:=(h.props a ha).id1
   show a.id<s.proposed+1
   omega
 ·refine Zg (fun _=>hk.1) fun a=>?_
  by_cases h2:1073741824≤s.proposed
  ·rw [decide_eq_true h2];exact hk.1
  ·rw [decide_eq_false h2];exact hk.2 (by omega) (by omega)
theorem ZtM {t0:ByteArray} {q:Int} {s:State} {c:Change} (h:VS t0 q s) (hq:1≤q) (hv:CV c) (hc:c.tame):Tot (ZdG s c q) (Zkj t0 q s):=by
 have k1:=hv.kind1
 have k2:=hv.kind2
 have c0:=h.clock0
 have c1:=h.clock1
 unfold ZdG
 refine Zg (fun e=>?_) fun e1=>?_
 ·exact Zi (ZwC h hq hv (hv.title (by omega) (by omega)) hc.title) fun r hr=>Zc hr
 refine Zg (fun e=>?_) fun e2=>?_
 ·exact Zi (Zr4 h) fun r hr=>Zc hr
 refine Zg (fun e=>?_) fun e3=>?_
 ·exact Zi (Zp7 h hc.title) fun r hr=>Zc hr
 refine Zg (fun e=>?_) fun e4=>?_
 ·exact Zi (ZvA h hq hv (hv.title (by omega) (by omega)) (hv.dest e) hc.title hc.to) fun r hr=>Zc hr
 refine Zg (fun e=>?_) fun e5=>?_
 ·exact Zi (ZvB h hq hv (hv.imp e) (hv.title (by omega) (by omega)) hc.title) fun r hr=>Zc hr
 refine Zg (fun e=>?_) fun e6=>?_
 ·have n1:=hv.tick e
  have n2:=hc.n1
  rw [Zs (by omega) (by omega)]
  refine Zg (fun _=>Zc (Za2 (by decide))) fun hlt=>?_
  rw [Zs (by omega) (by omega)]
  have hcl:s.clock≤s.clock+c.n:=by omega
  refine Zc fun _=>⟨⟨h.seq0,by show 0≤s.clock+c.n;omega,by show s.clock+c.n≤_;omega,h.plen,h.glen,fun p hp=>(h.pages p hp).mono hcl (Int.le_refl _),fun p hp=>(h.gone p hp).mono hcl (Int.le_refl _),h.sorted,h.rule,h.prlen,h.prop0,h.prop1,fun p hp=>(h.props p hp).mono hcl (Int.le_refl _),h.ids,h.prsort,h.wlen,h.watches,h.wsort,h.llen,h.lasts,h.lsort⟩,rfl,hcl,?_⟩
  show s.clock+c.n≤s.clock+2000
  omega
 refine ZO (fun k=>(c.kind=7∨c.kind=8→Tot (k true) (Zkj t0 q s))∧(¬ (c.kind=7∨c.kind=8)→Tot (k false) (Zkj t0 q s))) ⟨fun hw=>?_,fun hw=>?_⟩ fun k hk=>?_
 ·refine Zal rfl ?_
  exact Zi (Zu8 h (ZrK hv.user (hv.watch hw)) (hv.title (by omega) (by omega))) fun r hr=>Zc hr
 ·refine ZD rfl ?_
  refine Zg (fun e=>?_) fun e9=>?_
  ·exact Zi (ZrM h hv e) fun r hr=>Zc hr
  ·refine Zi (ZtG s c (by have:=h.prlen;omega)) fun r hr=>Zc ?_
   intro h0
   obtain ⟨l,hs,e⟩:=hr h0
   rw [e]
   exact ⟨h.withProps hs,rfl,Int.le_refl _,by show s.clock≤s.clock+2000;omega⟩
 ·refine Zg (fun e=>?_) fun e7=>?_
  ·rw [decide_eq_true e];exact hk.1 (.inl e)
  ·by_cases e8:c.kind=8
   ·rw [decide_eq_true e8];exact hk.1 (.inr e8)
   ·rw [decide_eq_false e8];exact hk.2 (by omega)
theorem Zkf (c:Change) (hc:c.tame):Tot (ZbO c) fun _=>True:=by
 unfold ZbO
 refine Zg (fun e=>?_) fun e=>?_
 ·refine Zd (v:=policyT) rfl ?_
  exact Za0 (fun _=>Zc trivial) fun e2=>absurd e2 hc.title
 refine ZO (fun k=>∀ b,Tot (k b) fun _=>True) (fun b=>?_) fun k hk=>?_
 ·refine Zbg (fun _=>?_) fun _=>?_
  ·refine Zd (v:=policyT) rfl ?_
   exact Zc trivial
  ·refine Zg (fun e4=>?_) fun e4=>Zc trivial
   refine ZO (fun k=>∀ b,Tot (k b) fun _=>True) (fun b=>Zc trivial) fun k hk=>?_
   refine Zd (v:=policyT) rfl ?_
   refine Zg (fun _=>hk _) fun _=>?_
   refine Zd (v:=policyT) rfl ?_
   exact hk _
 ·exact Zg (fun _=>hk _) fun _=>Zg (fun _=>hk _) fun _=>hk _
theorem Zva {t0:ByteArray} {s:State} {l:List Change} (h:VS t0 s.seq s) (hs:s.seq<1073741824) (hp:∃ p n,Zaf t0=some (p,n,0)) (hl:∀ c ∈ l,c.tame) (hn:l.length≤16):Tot (ZaZ s l) fun r=>r.2=0→VS t0 r.1.seq r.1∧r.1.seq=s.seq+1∧s.clock≤r.1.clock∧r.1.clock≤s.clock+2000 * (l.length:Int):=by
 have s0:=h.seq0
 unfold ZaZ
 refine Zd (ZrN t0 s h (by omega) hp) ?_
 refine ZD rfl ?_
 have e1:w64 (s.seq+1)=s.seq+1:=Zs (by omega) (by omega)
 refine ZO (fun k=>Tot (k true) (fun r=>r.2=0→VS t0 r.1.seq r.1∧r.1.seq=s.seq+1∧s.clock≤r.1.clock∧r.1.clock≤s.clock+2000 * (l.length:Int))∧Tot (k false) (fun r=>r.2=0→VS t0 r.1.seq r.1∧r.1.seq=s.seq+1∧s.clock≤r.1.clock∧r.1.clock≤s.clock+2000 * (l.length:Int))) ⟨Zal rfl (Zc fun e=>by cases e),?_⟩ fun k hk=>?_
 ·refine ZD rfl ?_
  refine ZH (fun a:Int×Int×Int×List Stored×List Stored×List Proposal×Int×List Watch×List Last=>∃ n:Nat,a.1=n∧n≤l.length∧VS t0 (s.seq+1) ⟨a.2.1,a.2.2.1,a.2.2.2.1,a.2.2.2.2.1,a.2.2.2.2.2.1,a.2.2.2.2.2.2.1,a.2.2.2.2.2.2.2.1,a.2.2.2.2.2.2.2.2⟩∧a.2.1=s.seq∧s.clock≤a.2.2.1∧a.2.2.1≤s.clock+2000 * (n:Int)) (fun a=>((l.length:Int) - a.1).toNat) ⟨0,rfl,Nat.zero_le _,h.mono (by omega),rfl,Int.le_refl _,by simp⟩ (by first | omega | (dsimp only;omega)) ?_
  rintro ⟨i,sq,cl,pg,gn,pr,pd,wt,ls⟩ rec ⟨n,hi,hn',hV,hsq,hc0,hc1⟩ ih
  dsimp only at hi hV hsq hc0 hc1
  subst hi hsq
  rw [e1]
  refine Zg (fun hlt=>?_) fun hlt=>?_
  ·refine ZF (by omega) hlt fun c hcm hg=>?_
   have get:∀ {f:Change→Option (State×Int)} {R:State×Int→Prop},Tot (f c) R→Tot ((atI l (n:Int)).bind f) R:=fun hf=>Zd (ZlV (by simpa using hg)) hf
   have tame:=hl c hcm
   refine Zi (ZmG c (by have:=tame.hist;omega)) fun e he=>?_
   refine Za0 (fun hne=>Zc fun e0=>absurd e0 hne) fun h0=>?_
   have cv:=he h0
   refine get ?_
   refine Zi (ZtM hV (by omega) cv tame) fun r hr=>?_
   refine Za0 (fun hne=>Zc fun e0=>absurd e0 hne) fun h0=>?_
   obtain ⟨k1,k2,k3,k4⟩:=hr h0
   refine get ?_
   refine Zi (Zkf c tame) fun b _=>?_
   refine Zbg (fun _=>Zc fun e0=>by cases e0) fun _=>?_
   refine get ?_
   refine Zi (ZrL k1 (by omega) cv.user) fun r2 hr2=>?_
   refine Za0 (fun hne=>Zc fun e0=>absurd e0 hne) fun h0=>?_
   obtain ⟨m1,m2,m3⟩:=hr2 h0
   rw [Zs (by omega) (by omega)]
   refine ih _ ⟨n+1,by dsimp only;omega,by omega,m1,?_,?_,?_⟩ (by first | omega | (dsimp only;omega))
   ·dsimp only at k2 ⊢
    omega
   ·dsimp only at k3 ⊢
    omega
   ·dsimp only at k4 ⊢
    omega
  ·refine Zg (fun hc=>absurd hc (by omega)) fun _=>Zc fun _=>?_
   refine ⟨⟨by show 0≤s.seq+1;omega,hV.clock0,hV.clock1,hV.plen,hV.glen,hV.pages,hV.gone,hV.sorted,hV.rule,hV.prlen,hV.prop0,hV.prop1,hV.props,hV.ids,hV.prsort,hV.wlen,hV.watches,hV.wsort,hV.llen,hV.lasts,hV.lsort⟩,rfl,hc0,?_⟩
   show cl≤_
   have:(n:Int)≤l.length:=by omega
   omega
 ·refine Zg (fun _=>hk.1) fun h1=>?_
  rw [decide_eq_false (by omega)]
  exact hk.2
def Znm:Policy:=⟨[],[],[]⟩
def Zr5:Policy:=⟨[],[⟨true,1,⟨#[97,108,108]⟩,⟨1,⟨0,⟨#[]⟩⟩⟩⟩],[]⟩
def Zr6:Policy:=⟨[],[⟨true,1,⟨#[97,108,108]⟩,⟨1,⟨0,⟨#[]⟩⟩⟩⟩,⟨true,2,⟨#[97,108,108]⟩,⟨1,⟨0,⟨#[]⟩⟩⟩⟩],[]⟩
def Zr7:Policy:=⟨[],[⟨true,1,⟨#[97,108,108]⟩,⟨1,⟨0,⟨#[]⟩⟩⟩⟩,⟨true,2,⟨#[97,108,108]⟩,⟨1,⟨0,⟨#[]⟩⟩⟩⟩,⟨true,3,⟨#[97,108,108]⟩,⟨1,⟨0,⟨#[]⟩⟩⟩⟩],[]⟩
def Zr8:Policy:=⟨[],[⟨true,1,⟨#[97,108,108]⟩,⟨1,⟨0,⟨#[]⟩⟩⟩⟩,⟨true,2,⟨#[97,108,108]⟩,⟨1,⟨0,⟨#[]⟩⟩⟩⟩,⟨true,3,⟨#[97,108,108]⟩,⟨1,⟨0,⟨#[]⟩⟩⟩⟩,⟨true,4,⟨#[97,108,108]⟩,⟨1,⟨0,⟨#[]⟩⟩⟩⟩],[]⟩
def Ze1:Policy:=⟨[],[⟨true,1,⟨#[97,108,108]⟩,⟨1,⟨0,⟨#[]⟩⟩⟩⟩,⟨true,2,⟨#[97,108,108]⟩,⟨1,⟨0,⟨#[]⟩⟩⟩⟩,⟨true,3,⟨#[97,108,108]⟩,⟨1,⟨0,⟨#[]⟩⟩⟩⟩,⟨true,4,⟨#[97,108,108]⟩,⟨1,⟨0,⟨#[]⟩⟩⟩⟩,⟨true,5,⟨#[97,108,108]⟩,⟨1,⟨0,⟨#[]⟩⟩⟩⟩],[]⟩
def Zmd:Policy:=⟨[⟨⟨#[115,116,97,102,102]⟩,[⟨#[97,110,110]⟩]⟩],[⟨true,1,⟨#[97,108,108]⟩,⟨1,⟨0,⟨#[]⟩⟩⟩⟩,⟨true,2,⟨#[97,108,108]⟩,⟨1,⟨0,⟨#[]⟩⟩⟩⟩,⟨true,3,⟨#[97,108,108]⟩,⟨1,⟨0,⟨#[]⟩⟩⟩⟩,⟨true,4,⟨#[97,108,108]⟩,⟨1,⟨0,⟨#[]⟩⟩⟩⟩,⟨true,5,⟨#[97,108,108]⟩,⟨1,⟨0,⟨#[]⟩⟩⟩⟩],[]⟩
def Zr9:Policy:=⟨[⟨⟨#[115,116,97,102,102]⟩,[⟨#[97,110,110]⟩]⟩],[⟨true,1,⟨#[97,108,108]⟩,⟨1,⟨0,⟨#[]⟩⟩⟩⟩,⟨true,2,⟨#[97,108,108]⟩,⟨1,⟨0,⟨#[]⟩⟩⟩⟩,⟨true,3,⟨#[97,108,108]⟩,⟨1,⟨0,⟨#[]⟩⟩⟩⟩,⟨true,4,⟨#[97,108,108]⟩,⟨1,⟨0,⟨#[]⟩⟩⟩⟩,⟨true,5,⟨#[97,108,108]⟩,⟨1,⟨0,⟨#[]⟩⟩⟩⟩,⟨false,1,⟨#[97,108,108]⟩,⟨3,⟨0,⟨#[65]⟩⟩⟩⟩],[]⟩
def Zko:Policy:=⟨[⟨⟨#[115,116,97,102,102]⟩,[⟨#[97,110,110]⟩]⟩],[⟨true,1,⟨#[97,108,108]⟩,⟨1,⟨0,⟨#[]⟩⟩⟩⟩,⟨true,2,⟨#[97,108,108]⟩,⟨1,⟨0,⟨#[]⟩⟩⟩⟩,⟨true,3,⟨#[97,108,108]⟩,⟨1,⟨0,⟨#[]⟩⟩⟩⟩,⟨true,4,⟨#[97,108,108]⟩,⟨1,⟨0,⟨#[]⟩⟩⟩⟩,⟨true,5,⟨#[97,108,108]⟩,⟨1,⟨0,⟨#[]⟩⟩⟩⟩,⟨false,1,⟨#[97,108,108]⟩,⟨3,⟨0,⟨#[65]⟩⟩⟩⟩,⟨true,1,⟨#[115,116,97,102,102]⟩,⟨3,⟨0,⟨#[65,47,67]⟩⟩⟩⟩],[]⟩
def Zsa:Policy:=⟨[⟨⟨#[115,116,97,102,102]⟩,[⟨#[97,110,110]⟩]⟩],[⟨true,1,⟨#[97,108,108]⟩,⟨1,⟨0,⟨#[]⟩⟩⟩⟩,⟨true,2,⟨#[97,108,108]⟩,⟨1,⟨0,⟨#[]⟩⟩⟩⟩,⟨true,3,⟨#[97,108,108]⟩,⟨1,⟨0,⟨#[]⟩⟩⟩⟩,⟨true,4,⟨#[97,108,108]⟩,⟨1,⟨0,⟨#[]⟩⟩⟩⟩,⟨true,5,⟨#[97,108,108]⟩,⟨1,⟨0,⟨#[]⟩⟩⟩⟩],[⟨false,⟨#[115,116,97,102,102]⟩,⟨0,⟨#[65]⟩⟩,⟨#[83]⟩⟩]⟩
def Zol:Policy:=⟨[⟨⟨#[115,116,97,102,102]⟩,[⟨#[97,110,110]⟩]⟩],[⟨true,1,⟨#[97,108,108]⟩,⟨1,⟨0,⟨#[]⟩⟩⟩⟩,⟨true,2,⟨#[97,108,108]⟩,⟨1,⟨0,⟨#[]⟩⟩⟩⟩,⟨true,3,⟨#[97,108,108]⟩,⟨1,⟨0,⟨#[]⟩⟩⟩⟩,⟨true,4,⟨#[97,108,108]⟩,⟨1,⟨0,⟨#[]⟩⟩⟩⟩,⟨true,5,⟨#[97,108,108]⟩,⟨1,⟨0,⟨#[]⟩⟩⟩⟩],[⟨false,⟨#[115,116,97,102,102]⟩,⟨0,⟨#[65]⟩⟩,⟨#[83]⟩⟩,⟨true,⟨#[115,116,97,102,102]⟩,⟨3,⟨#[84]⟩⟩,⟨#[]⟩⟩]⟩
def ZgI:Policy:=⟨[⟨⟨#[115,116,97,102,102]⟩,[⟨#[97,110,110]⟩]⟩],[⟨true,1,⟨#[97,108,108]⟩,⟨1,⟨0,⟨#[]⟩⟩⟩⟩,⟨true,2,⟨#[97,108,108]⟩,⟨1,⟨0,⟨#[]⟩⟩⟩⟩,⟨true,3,⟨#[97,108,108]⟩,⟨1,⟨0,⟨#[]⟩⟩⟩⟩,⟨true,4,⟨#[97,108,108]⟩,⟨1,⟨0,⟨#[]⟩⟩⟩⟩,⟨true,5,⟨#[97,108,108]⟩,⟨1,⟨0,⟨#[]⟩⟩⟩⟩],[⟨false,⟨#[115,116,97,102,102]⟩,⟨0,⟨#[65]⟩⟩,⟨#[83]⟩⟩,⟨true,⟨#[115,116,97,102,102]⟩,⟨3,⟨#[84]⟩⟩,⟨#[]⟩⟩,⟨false,⟨#[115,116,97,102,102]⟩,⟨0,⟨#[66]⟩⟩,⟨#[]⟩⟩]⟩
def Zom:Policy:=⟨[⟨⟨#[115,116,97,102,102]⟩,[⟨#[97,110,110]⟩,⟨#[64,109,111,114,101]⟩]⟩],[],[]⟩
def Zon:Policy:=⟨[⟨⟨#[115,116,97,102,102]⟩,[⟨#[97,110,110]⟩,⟨#[64,109,111,114,101]⟩]⟩,⟨⟨#[109,111,114,101]⟩,[⟨#[98,111,98]⟩]⟩],[],[]⟩
def Zoo:Policy:=⟨[⟨⟨#[115,116,97,102,102]⟩,[⟨#[97,110,110]⟩,⟨#[64,109,111,114,101]⟩]⟩,⟨⟨#[109,111,114,101]⟩,[⟨#[98,111,98]⟩]⟩],[⟨true,1,⟨#[97,108,108]⟩,⟨2,⟨0,⟨#[]⟩⟩⟩⟩],[]⟩
def Zop:Policy:=⟨[⟨⟨#[115,116,97,102,102]⟩,[⟨#[97,110,110]⟩,⟨#[64,109,111,114,101]⟩]⟩,⟨⟨#[109,111,114,101]⟩,[⟨#[98,111,98]⟩]⟩],[⟨true,1,⟨#[97,108,108]⟩,⟨2,⟨0,⟨#[]⟩⟩⟩⟩,⟨true,1,⟨#[97,108,108]⟩,⟨2,⟨3,⟨#[]⟩⟩⟩⟩],[]⟩
def Zoq:Policy:=⟨[⟨⟨#[115,116,97,102,102]⟩,[⟨#[97,110,110]⟩,⟨#[64,109,111,114,101]⟩]⟩,⟨⟨#[109,111,114,101]⟩,[⟨#[98,111,98]⟩]⟩],[⟨true,1,⟨#[97,108,108]⟩,⟨2,⟨0,⟨#[]⟩⟩⟩⟩,⟨true,1,⟨#[97,108,108]⟩,⟨2,⟨3,⟨#[]⟩⟩⟩⟩,⟨true,1,⟨#[97,108,108]⟩,⟨2,⟨4,⟨#[]⟩⟩⟩⟩],[]⟩
def Zor:Policy:=⟨[⟨⟨#[115,116,97,102,102]⟩,[⟨#[97,110,110]⟩,⟨#[64,109,111,114,101]⟩]⟩,⟨⟨#[109,111,114,101]⟩,[⟨#[98,111,98]⟩]⟩],[⟨true,1,⟨#[97,108,108]⟩,⟨2,⟨0,⟨#[]⟩⟩⟩⟩,⟨true,1,⟨#[97,108,108]⟩,⟨2,⟨3,⟨#[]⟩⟩⟩⟩,⟨true,1,⟨#[97,108,108]⟩,⟨2,⟨4,⟨#[]⟩⟩⟩⟩,⟨true,2,⟨#[117,115,101,114,115]⟩,⟨2,⟨0,⟨#[]⟩⟩⟩⟩],[]⟩
def Zos:Policy:=⟨[⟨⟨#[115,116,97,102,102]⟩,[⟨#[97,110,110]⟩,⟨#[64,109,111,114,101]⟩]⟩,⟨⟨#[109,111,114,101]⟩,[⟨#[98,111,98]⟩]⟩],[⟨true,1,⟨#[97,108,108]⟩,⟨2,⟨0,⟨#[]⟩⟩⟩⟩,⟨true,1,⟨#[97,108,108]⟩,⟨2,⟨3,⟨#[]⟩⟩⟩⟩,⟨true,1,⟨#[97,108,108]⟩,⟨2,⟨4,⟨#[]⟩⟩⟩⟩,⟨true,2,⟨#[117,115,101,114,115]⟩,⟨2,⟨0,⟨#[]⟩⟩⟩⟩,⟨true,2,⟨#[115,116,97,102,102]⟩,⟨2,⟨4,⟨#[]⟩⟩⟩⟩],[]⟩
def Zot:Policy:=⟨[⟨⟨#[115,116,97,102,102]⟩,[⟨#[97,110,110]⟩,⟨#[64,109,111,114,101]⟩]⟩,⟨⟨#[109,111,114,101]⟩,[⟨#[98,111,98]⟩]⟩],[⟨true,1,⟨#[97,108,108]⟩,⟨2,⟨0,⟨#[]⟩⟩⟩⟩,⟨true,1,⟨#[97,108,108]⟩,⟨2,⟨3,⟨#[]⟩⟩⟩⟩,⟨true,1,⟨#[97,108,108]⟩,⟨2,⟨4,⟨#[]⟩⟩⟩⟩,⟨true,2,⟨#[117,115,101,114,115]⟩,⟨2,⟨0,⟨#[]⟩⟩⟩⟩,⟨true,2,⟨#[115,116,97,102,102]⟩,⟨2,⟨4,⟨#[]⟩⟩⟩⟩,⟨true,5,⟨#[115,116,97,102,102]⟩,⟨1,⟨0,⟨#[]⟩⟩⟩⟩],[]⟩
def Zou:Policy:=⟨[⟨⟨#[115,116,97,102,102]⟩,[⟨#[97,110,110]⟩,⟨#[64,109,111,114,101]⟩]⟩,⟨⟨#[109,111,114,101]⟩,[⟨#[98,111,98]⟩]⟩],[⟨true,1,⟨#[97,108,108]⟩,⟨2,⟨0,⟨#[]⟩⟩⟩⟩,⟨true,1,⟨#[97,108,108]⟩,⟨2,⟨3,⟨#[]⟩⟩⟩⟩,⟨true,1,⟨#[97,108,108]⟩,⟨2,⟨4,⟨#[]⟩⟩⟩⟩,⟨true,2,⟨#[117,115,101,114,115]⟩,⟨2,⟨0,⟨#[]⟩⟩⟩⟩,⟨true,2,⟨#[115,116,97,102,102]⟩,⟨2,⟨4,⟨#[]⟩⟩⟩⟩,⟨true,5,⟨#[115,116,97,102,102]⟩,⟨1,⟨0,⟨#[]⟩⟩⟩⟩,⟨true,3,⟨#[115,116,97,102,102]⟩,⟨1,⟨0,⟨#[]⟩⟩⟩⟩],[]⟩
def Zov:Policy:=⟨[⟨⟨#[115,116,97,102,102]⟩,[⟨#[97,110,110]⟩,⟨#[64,109,111,114,101]⟩]⟩,⟨⟨#[109,111,114,101]⟩,[⟨#[98,111,98]⟩]⟩],[⟨true,1,⟨#[97,108,108]⟩,⟨2,⟨0,⟨#[]⟩⟩⟩⟩,⟨true,1,⟨#[97,108,108]⟩,⟨2,⟨3,⟨#[]⟩⟩⟩⟩,⟨true,1,⟨#[97,108,108]⟩,⟨2,⟨4,⟨#[]⟩⟩⟩⟩,⟨true,2,⟨#[117,115,101,114,115]⟩,⟨2,⟨0,⟨#[]⟩⟩⟩⟩,⟨true,2,⟨#[115,116,97,102,102]⟩,⟨2,⟨4,⟨#[]⟩⟩⟩⟩,⟨true,5,⟨#[115,116,97,102,102]⟩,⟨1,⟨0,⟨#[]⟩⟩⟩⟩,⟨true,3,⟨#[115,116,97,102,102]⟩,⟨1,⟨0,⟨#[]⟩⟩⟩⟩,⟨true,4,⟨#[115,116,97,102,102]⟩,⟨1,⟨0,⟨#[]⟩⟩⟩⟩],[]⟩
def Zow:Policy:=⟨[⟨⟨#[115,116,97,102,102]⟩,[⟨#[97,110,110]⟩,⟨#[64,109,111,114,101]⟩]⟩,⟨⟨#[109,111,114,101]⟩,[⟨#[98,111,98]⟩]⟩],[⟨true,1,⟨#[97,108,108]⟩,⟨2,⟨0,⟨#[]⟩⟩⟩⟩,⟨true,1,⟨#[97,108,108]⟩,⟨2,⟨3,⟨#[]⟩⟩⟩⟩,⟨true,1,⟨#[97,108,108]⟩,⟨2,⟨4,⟨#[]⟩⟩⟩⟩,⟨true,2,⟨#[117,115,101,114,115]⟩,⟨2,⟨0,⟨#[]⟩⟩⟩⟩,⟨true,2,⟨#[115,116,97,102,102]⟩,⟨2,⟨4,⟨#[]⟩⟩⟩⟩,⟨true,5,⟨#[115,116,97,102,102]⟩,⟨1,⟨0,⟨#[]⟩⟩⟩⟩,⟨true,3,⟨#[115,116,97,102,102]⟩,⟨1,⟨0,⟨#[]⟩⟩⟩⟩,⟨true,4,⟨#[115,116,97,102,102]⟩,⟨1,⟨0,⟨#[]⟩⟩⟩⟩,⟨true,1,⟨#[115,116,97,102,102]⟩,⟨1,⟨0,⟨#[]⟩⟩⟩⟩],[]⟩
def ZgJ:Policy:=⟨[⟨⟨#[115,116,97,102,102]⟩,[⟨#[97,110,110]⟩,⟨#[64,109,111,114,101]⟩]⟩,⟨⟨#[109,111,114,101]⟩,[⟨#[98,111,98]⟩]⟩],[⟨true,1,⟨#[97,108,108]⟩,⟨2,⟨0,⟨#[]⟩⟩⟩⟩,⟨true,1,⟨#[97,108,108]⟩,⟨2,⟨3,⟨#[]⟩⟩⟩⟩,⟨true,1,⟨#[97,108,108]⟩,⟨2,⟨4,⟨#[]⟩⟩⟩⟩,⟨true,2,⟨#[117,115,101,114,115]⟩,⟨2,⟨0,⟨#[]⟩⟩⟩⟩,⟨true,2,⟨#[115,116,97,102,102]⟩,⟨2,⟨4,⟨#[]⟩⟩⟩⟩,⟨true,5,⟨#[115,116,97,102,102]⟩,⟨1,⟨0,⟨#[]⟩⟩⟩⟩,⟨true,3,⟨#[115,116,97,102,102]⟩,⟨1,⟨0,⟨#[]⟩⟩⟩⟩,⟨true,4,⟨#[115,116,97,102,102]⟩,⟨1,⟨0,⟨#[]⟩⟩⟩⟩,⟨true,1,⟨#[115,116,97,102,102]⟩,⟨1,⟨0,⟨#[]⟩⟩⟩⟩,⟨true,2,⟨#[115,116,97,102,102]⟩,⟨1,⟨0,⟨#[]⟩⟩⟩⟩],[]⟩
def Zox:Policy:=⟨[],[⟨true,1,⟨#[97,108,108]⟩,⟨1,⟨0,⟨#[]⟩⟩⟩⟩,⟨true,2,⟨#[97,108,108]⟩,⟨1,⟨0,⟨#[]⟩⟩⟩⟩,⟨true,3,⟨#[97,108,108]⟩,⟨1,⟨0,⟨#[]⟩⟩⟩⟩,⟨true,4,⟨#[97,108,108]⟩,⟨1,⟨0,⟨#[]⟩⟩⟩⟩,⟨true,5,⟨#[97,108,108]⟩,⟨1,⟨0,⟨#[]⟩⟩⟩⟩,⟨false,1,⟨#[97,108,108]⟩,⟨3,⟨0,⟨#[66]⟩⟩⟩⟩],[]⟩
def ZgK:Policy:=⟨[],[⟨true,1,⟨#[97,108,108]⟩,⟨1,⟨0,⟨#[]⟩⟩⟩⟩,⟨true,2,⟨#[97,108,108]⟩,⟨1,⟨0,⟨#[]⟩⟩⟩⟩,⟨true,3,⟨#[97,108,108]⟩,⟨1,⟨0,⟨#[]⟩⟩⟩⟩,⟨true,4,⟨#[97,108,108]⟩,⟨1,⟨0,⟨#[]⟩⟩⟩⟩,⟨true,5,⟨#[97,108,108]⟩,⟨1,⟨0,⟨#[]⟩⟩⟩⟩,⟨false,1,⟨#[97,108,108]⟩,⟨3,⟨0,⟨#[66]⟩⟩⟩⟩,⟨false,1,⟨#[97,108,108]⟩,⟨3,⟨4,⟨#[89]⟩⟩⟩⟩],[]⟩
def Zoy:Policy:=⟨[],[⟨true,1,⟨#[97,108,108]⟩,⟨1,⟨0,⟨#[]⟩⟩⟩⟩,⟨true,2,⟨#[97,108,108]⟩,⟨1,⟨0,⟨#[]⟩⟩⟩⟩,⟨true,3,⟨#[97,108,108]⟩,⟨1,⟨0,⟨#[]⟩⟩⟩⟩,⟨true,4,⟨#[97,108,108]⟩,⟨1,⟨0,⟨#[]⟩⟩⟩⟩,⟨true,5,⟨#[97,108,108]⟩,⟨1,⟨0,⟨#[]⟩⟩⟩⟩,⟨false,2,⟨#[97,108,108]⟩,⟨3,⟨0,⟨#[66]⟩⟩⟩⟩],[]⟩
def ZgL:Policy:=⟨[],[⟨true,1,⟨#[97,108,108]⟩,⟨1,⟨0,⟨#[]⟩⟩⟩⟩,⟨true,2,⟨#[97,108,108]⟩,⟨1,⟨0,⟨#[]⟩⟩⟩⟩,⟨true,3,⟨#[97,108,108]⟩,⟨1,⟨0,⟨#[]⟩⟩⟩⟩,⟨true,4,⟨#[97,108,108]⟩,⟨1,⟨0,⟨#[]⟩⟩⟩⟩,⟨true,5,⟨#[97,108,108]⟩,⟨1,⟨0,⟨#[]⟩⟩⟩⟩,⟨false,2,⟨#[97,108,108]⟩,⟨3,⟨0,⟨#[66]⟩⟩⟩⟩,⟨false,1,⟨#[117,115,101,114,115]⟩,⟨3,⟨0,⟨#[68]⟩⟩⟩⟩],[]⟩
def Zoz:Policy:=⟨[⟨⟨#[115,116,97,102,102]⟩,[⟨#[97,110,110]⟩]⟩],[⟨true,1,⟨#[97,108,108]⟩,⟨1,⟨0,⟨#[]⟩⟩⟩⟩,⟨true,2,⟨#[97,108,108]⟩,⟨1,⟨0,⟨#[]⟩⟩⟩⟩,⟨true,3,⟨#[97,108,108]⟩,⟨1,⟨0,⟨#[]⟩⟩⟩⟩,⟨true,4,⟨#[97,108,108]⟩,⟨1,⟨0,⟨#[]⟩⟩⟩⟩,⟨true,5,⟨#[97,108,108]⟩,⟨1,⟨0,⟨#[]⟩⟩⟩⟩,⟨false,5,⟨#[97,108,108]⟩,⟨1,⟨0,⟨#[]⟩⟩⟩⟩],[]⟩
def ZoA:Policy:=⟨[⟨⟨#[115,116,97,102,102]⟩,[⟨#[97,110,110]⟩]⟩],[⟨true,1,⟨#[97,108,108]⟩,⟨1,⟨0,⟨#[]⟩⟩⟩⟩,⟨true,2,⟨#[97,108,108]⟩,⟨1,⟨0,⟨#[]⟩⟩⟩⟩,⟨true,3,⟨#[97,108,108]⟩,⟨1,⟨0,⟨#[]⟩⟩⟩⟩,⟨true,4,⟨#[97,108,108]⟩,⟨1,⟨0,⟨#[]⟩⟩⟩⟩,⟨true,5,⟨#[97,108,108]⟩,⟨1,⟨0,⟨#[]⟩⟩⟩⟩,⟨false,5,⟨#[97,108,108]⟩,⟨1,⟨0,⟨#[]⟩⟩⟩⟩,⟨true,5,⟨#[115,116,97,102,102]⟩,⟨2,⟨0,⟨#[]⟩⟩⟩⟩],[]⟩
def ZoB:Policy:=⟨[⟨⟨#[115,116,97,102,102]⟩,[⟨#[97,110,110]⟩]⟩],[⟨true,1,⟨#[97,108,108]⟩,⟨1,⟨0,⟨#[]⟩⟩⟩⟩,⟨true,2,⟨#[97,108,108]⟩,⟨1,⟨0,⟨#[]⟩⟩⟩⟩,⟨true,3,⟨#[97,108,108]⟩,⟨1,⟨0,⟨#[]⟩⟩⟩⟩,⟨true,4,⟨#[97,108,108]⟩,⟨1,⟨0,⟨#[]⟩⟩⟩⟩,⟨true,5,⟨#[97,108,108]⟩,⟨1,⟨0,⟨#[]⟩⟩⟩⟩,⟨false,5,⟨#[97,108,108]⟩,⟨1,⟨0,⟨#[]⟩⟩⟩⟩,⟨true,5,⟨#[115,116,97,102,102]⟩,⟨2,⟨0,⟨#[]⟩⟩⟩⟩],[⟨false,⟨#[115,116,97,102,102]⟩,⟨0,⟨#[65]⟩⟩,⟨#[]⟩⟩]⟩
def ZgM:Policy:=⟨[⟨⟨#[115,116,97,102,102]⟩,[⟨#[97,110,110]⟩]⟩],[⟨true,1,⟨#[97,108,108]⟩,⟨1,⟨0,⟨#[]⟩⟩⟩⟩,⟨true,2,⟨#[97,108,108]⟩,⟨1,⟨0,⟨#[]⟩⟩⟩⟩,⟨true,3,⟨#[97,108,108]⟩,⟨1,⟨0,⟨#[]⟩⟩⟩⟩,⟨true,4,⟨#[97,108,108]⟩,⟨1,⟨0,⟨#[]⟩⟩⟩⟩,⟨true,5,⟨#[97,108,108]⟩,⟨1,⟨0,⟨#[]⟩⟩⟩⟩,⟨false,5,⟨#[97,108,108]⟩,⟨1,⟨0,⟨#[]⟩⟩⟩⟩,⟨true,5,⟨#[115,116,97,102,102]⟩,⟨2,⟨0,⟨#[]⟩⟩⟩⟩],[⟨false,⟨#[115,116,97,102,102]⟩,⟨0,⟨#[65]⟩⟩,⟨#[]⟩⟩,⟨false,⟨#[115,116,97,102,102]⟩,⟨0,⟨#[68]⟩⟩,⟨#[]⟩⟩]⟩
inductive StmR:Policy→List ByteArray→Policy→Prop
 | nil {p:Policy}:StmR p [] p
 | cons {p q r:Policy} {l:ByteArray} {ls:List ByteArray} (h:Zp p l=some (q,true)) (k:StmR q ls r):StmR p (l::ls) r
theorem Zed {s:ByteArray} {lines:List ByteArray} {p:Policy} (hs:decide ((8192:Int)<(s.size:Int))=false) (hL:ZhI s=some lines) (hn:decide (lines.length≤1000)=true) (h:StmR ⟨[],[],[]⟩ lines p) (hv:Zen p=some 0):Zaf s=some (p,0,0):=by
 have hn':lines.length≤1000:=of_decide_eq_true hn
 refine Zb6 ?_
 unfold Zaf
 refine ZD hs ?_
 refine Zd hL ?_
 refine ZH (fun a:Int×List Group×List Rule×List Guard=>∃ n:Nat,a.1=n∧n≤lines.length∧StmR ⟨a.2.1,a.2.2.1,a.2.2.2⟩ (lines.drop n) p) (fun a=>((lines.length:Int) - a.1).toNat) ⟨0,rfl,Nat.zero_le _,h⟩ (by first | omega | (dsimp only;omega)) ?_
 rintro ⟨i,gs,rs,us⟩ rec ⟨n,hi,hn2,hst⟩ ih
 dsimp only at hi hst
 subst hi
 refine Zg (fun hlt=>?_) fun hlt=>?_
 ·refine ZF (by omega) hlt fun e _ hg=>?_
  rw [Int.toNat_natCast] at hg
  rw [Zj5 hg] at hst
  cases hst with
  | cons h1 h2=>
    refine Zd h1 ?_
    refine ZD rfl ?_
    rw [Zs (by omega) (by omega)]
    exact ih _ ⟨n+1,by dsimp only;omega,by omega,h2⟩ (by first | omega | (dsimp only;omega))
 ·rw [List.drop_of_length_le (by omega)] at hst
  cases hst
  refine Zd hv ?_
  exact ZD rfl (Zc rfl)
inductive StmP:Policy→List ByteArray→Policy→Prop
 | nil {p:Policy}:StmP p [] p
 | cons {p q r:Policy} {l:ByteArray} {ls:List ByteArray} (h:Zj p l=some (true,q)) (k:StmP q ls r):StmP p (l::ls) r
theorem Zdn {s:ByteArray} {lines:List ByteArray} {p:Policy} (hs:decide ((8192:Int)<(s.size:Int))=false) (hL:strings_Split s ⟨#[10]⟩=some lines) (hn:decide (lines.length≤1000)=true) (h:StmP ⟨[],[],[]⟩ lines p) (hv:ZcF p=some 0):Zae s=some (p,0,0):=by
 have hn':lines.length≤1000:=of_decide_eq_true hn
 refine Zb6 ?_
 unfold Zae
 refine ZD hs ?_
 refine Zd hL ?_
 refine ZH (fun a:Int×List Group×List Rule×List Guard=>∃ n:Nat,a.1=n∧n≤lines.length∧StmP ⟨a.2.1,a.2.2.1,a.2.2.2⟩ (lines.drop n) p) (fun a=>((lines.length:Int) - a.1).toNat) ⟨0,rfl,Nat.zero_le _,h⟩ (by first | omega | (dsimp only;omega)) ?_
 rintro ⟨i,gs,rs,us⟩ rec ⟨n,hi,hn2,hst⟩ ih
 dsimp only at hi hst
 subst hi
 refine Zg (fun hlt=>?_) fun hlt=>?_
 ·refine ZF (by omega) hlt fun e _ hg=>?_
  rw [Int.toNat_natCast] at hg
  rw [Zj5 hg] at hst
  cases hst with
  | cons h1 h2=>
    refine Zd h1 ?_
    refine ZD rfl ?_
    rw [Zs (by omega) (by omega)]
    exact ih _ ⟨n+1,by dsimp only;omega,by omega,h2⟩ (by first | omega | (dsimp only;omega))
 ·rw [List.drop_of_length_le (by omega)] at hst
  cases hst
  refine Zd hv ?_
  exact ZD rfl (Zc rfl)
end Go.Proofs.YtjoneoobolnnbaaGreatDoor
namespace Go.Proofs.YtjoneoobolnnbaaGreatDoor
set_option maxRecDepth 100000 in
theorem Zjb:Zj Znm ⟨#[97,108,108,111,119,32,114,101,97,100,32,97,108,108,32,60,97,108,108,62]⟩=some (true,Zr5):=by kernel_rfl
set_option maxRecDepth 100000 in
theorem Zjc:Zj Zr7 ⟨#[97,108,108,111,119,32,100,101,108,101,116,101,32,97,108,108,32,60,97,108,108,62]⟩=some (true,Zr8):=by kernel_rfl
set_option maxRecDepth 100000 in
theorem Zp8:Zj Ze1 ⟨#[103,114,111,117,112,32,115,116,97,102,102,32,97,110,110]⟩=some (true,Zmd):=by kernel_rfl
set_option maxRecDepth 100000 in
theorem ZvC:Zj Zko ⟨#[]⟩=some (true,Zko):=by kernel_rfl
set_option maxRecDepth 100000 in
theorem ZtV:Zj Zol ⟨#[103,117,97,114,100,32,115,116,97,102,102,32,66]⟩=some (true,ZgI):=by kernel_rfl
set_option maxRecDepth 100000 in
theorem ZtW:Zj Zom ⟨#[103,114,111,117,112,32,109,111,114,101,32,98,111,98]⟩=some (true,Zon):=by kernel_rfl
set_option maxRecDepth 100000 in
theorem ZtX:Zj Zop ⟨#[97,108,108,111,119,32,114,101,97,100,32,97,108,108,32,60,67,97,116,101,103,111,114,121,62]⟩=some (true,Zoq):=by kernel_rfl
set_option maxRecDepth 100000 in
theorem ZtY:Zj Zos ⟨#[97,108,108,111,119,32,114,101,118,105,101,119,32,115,116,97,102,102,32,60,97,108,108,62]⟩=some (true,Zot):=by kernel_rfl
set_option maxRecDepth 100000 in
theorem ZtZ:Zj Zov ⟨#[97,108,108,111,119,32,114,101,97,100,32,115,116,97,102,102,32,60,97,108,108,62]⟩=some (true,Zow):=by kernel_rfl
set_option maxRecDepth 100000 in
theorem Zt0:Zj Ze1 ⟨#[100,101,110,121,32,114,101,97,100,32,97,108,108,32,66]⟩=some (true,Zox):=by kernel_rfl
set_option maxRecDepth 100000 in
theorem Zt1:Zj Ze1 ⟨#[100,101,110,121,32,101,100,105,116,32,97,108,108,32,66]⟩=some (true,Zoy):=by kernel_rfl
set_option maxRecDepth 100000 in
theorem Zt2:Zj Zmd ⟨#[100,101,110,121,32,114,101,118,105,101,119,32,97,108,108,32,60,97,108,108,62]⟩=some (true,Zoz):=by kernel_rfl
set_option maxRecDepth 100000 in
theorem Zt3:Zj ZoB ⟨#[103,117,97,114,100,32,115,116,97,102,102,32,68]⟩=some (true,ZgM):=by kernel_rfl
set_option maxRecDepth 100000 in
theorem ZjF:Zj Zr5 ⟨#[97,108,108,111,119,32,101,100,105,116,32,97,108,108,32,60,97,108,108,62]⟩=some (true,Zr6):=by kernel_rfl
set_option maxRecDepth 100000 in
theorem ZjG:Zj Zr8 ⟨#[97,108,108,111,119,32,114,101,118,105,101,119,32,97,108,108,32,60,97,108,108,62]⟩=some (true,Ze1):=by kernel_rfl
set_option maxRecDepth 100000 in
theorem Zv1:Zj Zmd ⟨#[100,101,110,121,32,114,101,97,100,32,97,108,108,32,65]⟩=some (true,Zr9):=by kernel_rfl
set_option maxRecDepth 100000 in
theorem Zus:Zj Zmd ⟨#[103,117,97,114,100,32,115,116,97,102,102,32,65,32,124,32,83]⟩=some (true,Zsa):=by kernel_rfl
set_option maxRecDepth 100000 in
theorem Zut:Zj ZgI ⟨#[]⟩=some (true,ZgI):=by kernel_rfl
set_option maxRecDepth 100000 in
theorem Zuu:Zj Zon ⟨#[97,108,108,111,119,32,114,101,97,100,32,97,108,108,32,60,77,97,105,110,62]⟩=some (true,Zoo):=by kernel_rfl
set_option maxRecDepth 100000 in
theorem Zuv:Zj Zoq ⟨#[97,108,108,111,119,32,101,100,105,116,32,117,115,101,114,115,32,60,77,97,105,110,62]⟩=some (true,Zor):=by kernel_rfl
set_option maxRecDepth 100000 in
theorem Zuw:Zj Zot ⟨#[97,108,108,111,119,32,109,111,118,101,32,115,116,97,102,102,32,60,97,108,108,62]⟩=some (true,Zou):=by kernel_rfl
set_option maxRecDepth 100000 in
theorem Zux:Zj Zow ⟨#[97,108,108,111,119,32,101,100,105,116,32,115,116,97,102,102,32,60,97,108,108,62]⟩=some (true,ZgJ):=by kernel_rfl
set_option maxRecDepth 100000 in
theorem Zuy:Zj Zox ⟨#[100,101,110,121,32,114,101,97,100,32,97,108,108,32,67,97,116,101,103,111,114,121,58,89]⟩=some (true,ZgK):=by kernel_rfl
set_option maxRecDepth 100000 in
theorem Zuz:Zj Zoy ⟨#[100,101,110,121,32,114,101,97,100,32,117,115,101,114,115,32,68]⟩=some (true,ZgL):=by kernel_rfl
set_option maxRecDepth 100000 in
theorem ZuA:Zj Zoz ⟨#[97,108,108,111,119,32,114,101,118,105,101,119,32,115,116,97,102,102,32,60,77,97,105,110,62]⟩=some (true,ZoA):=by kernel_rfl
set_option maxRecDepth 100000 in
theorem ZuB:Zj ZgM ⟨#[]⟩=some (true,ZgM):=by kernel_rfl
set_option maxRecDepth 100000 in
theorem Zj1:Zj Zr6 ⟨#[97,108,108,111,119,32,109,111,118,101,32,97,108,108,32,60,97,108,108,62]⟩=some (true,Zr7):=by kernel_rfl
set_option maxRecDepth 100000 in
theorem ZtE:Zj Ze1 ⟨#[]⟩=some (true,Ze1):=by kernel_rfl
set_option maxRecDepth 100000 in
theorem Zv9:Zj Zr9 ⟨#[97,108,108,111,119,32,114,101,97,100,32,115,116,97,102,102,32,65,47,67]⟩=some (true,Zko):=by kernel_rfl
set_option maxRecDepth 100000 in
theorem ZuQ:Zj Zsa ⟨#[115,116,114,105,99,116,32,115,116,97,102,102,32,84,101,109,112,108,97,116,101,58,84]⟩=some (true,Zol):=by kernel_rfl
set_option maxRecDepth 100000 in
theorem ZuR:Zj Znm ⟨#[103,114,111,117,112,32,115,116,97,102,102,32,97,110,110,32,64,109,111,114,101]⟩=some (true,Zom):=by kernel_rfl
set_option maxRecDepth 100000 in
theorem ZuS:Zj Zoo ⟨#[97,108,108,111,119,32,114,101,97,100,32,97,108,108,32,60,84,101,109,112,108,97,116,101,62]⟩=some (true,Zop):=by kernel_rfl
set_option maxRecDepth 100000 in
theorem ZuT:Zj Zor ⟨#[97,108,108,111,119,32,101,100,105,116,32,115,116,97,102,102,32,60,67,97,116,101,103,111,114,121,62]⟩=some (true,Zos):=by kernel_rfl
set_option maxRecDepth 100000 in
theorem ZuU:Zj Zou ⟨#[97,108,108,111,119,32,100,101,108,101,116,101,32,115,116,97,102,102,32,60,97,108,108,62]⟩=some (true,Zov):=by kernel_rfl
set_option maxRecDepth 100000 in
theorem ZuV:Zj ZgJ ⟨#[]⟩=some (true,ZgJ):=by kernel_rfl
set_option maxRecDepth 100000 in
theorem ZuW:Zj ZgK ⟨#[]⟩=some (true,ZgK):=by kernel_rfl
set_option maxRecDepth 100000 in
theorem ZuX:Zj ZgL ⟨#[]⟩=some (true,ZgL):=by kernel_rfl
set_option maxRecDepth 100000 in
theorem ZuY:Zj ZoA ⟨#[103,117,97,114,100,32,115,116,97,102,102,32,65]⟩=some (true,ZoB):=by kernel_rfl
end Go.Proofs.YtjoneoobolnnbaaGreatDoor
