/- The plain side of functions as Lean functions: lemmas to reckon them. No program is named. | A variable of the package is read; and what it is that a function as a Lean function returns something. No program is named. | One step of a run, whichever it is. No program is named. | What the rules ask of the types. Printed by facts.sh. | The types of the wiki, and how their values lie in cells. No program is named. Written by types.py. | How the data of the wiki are written as values. No program is named. Written by mkpv.py. | Arguments two by two. -/
import Derived.Test.YtmgfammllddkhaaGreatDoorCN02
import Derived.Test.YtmgfammllddkhaaGreatDoorRows
import Derived.Test.YtmgfammllddkhaaGreatDoorCN01
namespace Go.Proofs.YtmgfammllddkhaaGreatDoor
namespace VL
open Go.RowKit
theorem ZaH {n:Int} (h1 : -9223372036854775808≤n) (h2:n≤9223372036854775807):w64 n=n:=by
 show IntKind.wrap .i64 n=n
 rw [IntKind.wrap_i64]
 omega
theorem Zrb {α:Type} {l:List α} {n:Nat} {e:α} (h:l[n]? = some e):atI l (n:Int)=some e:=by rw [Zsx,h]
theorem ZsM {α:Type} {w:Nat} {a b:List α} (h:(a.length+b.length) * w≤140737488355328) (h2:a.length+b.length≤9223372036854775807):Zjs w a b=some (a++b):=by
 unfold Zjs
 rw [if_pos ⟨h,h2⟩]
theorem Zmm {α:Type} {w:Nat} {a b:List α} (n:Nat) (h:a.length+b.length≤n) (h2:n * w≤140737488355328) (h3:n≤9223372036854775807):Zjs w a b=some (a++b):=
 ZsM (Nat.le_trans (Nat.mul_le_mul_right w h) h2) (Nat.le_trans h h3)
theorem Zmn {a b:ByteArray} (h:a.size+b.size≤9223372036854775807):Zi7 a b=some (a++b):=by
 unfold Zi7
 rw [if_pos h]
theorem Zpe {s:ByteArray} {n:Nat} (h:n<s.size):atS s (n:Int)=some ((s[n]).toNat:Int):=by
 unfold atS
 rw [if_pos (by omega)]
 simp [h]
def goL {α β γ:Type} (step:α→γ→(γ→Option β)→Option β) (fin:γ→Option β):List α→γ→Option β
 | [],c=>fin c
 | e::l,c=>step e c (goL step fin l)
theorem Zpf {α:Type} {l:List α} {n:Nat} {e:α} (h:l[n]? = some e):l.drop n=e::l.drop (n+1):=by
 obtain ⟨hlt,he⟩:=List.getElem?_eq_some_iff.1 h
 rw [List.drop_eq_getElem_cons hlt,he]
theorem Zlf {α β γ σ:Type} {B:(σ→Option β)→σ→Option β} (L:List α) (mk:Nat→γ→σ) (step:α→γ→(γ→Option β)→Option β) (fin:γ→Option β)
  (hs:∀ (n:Nat) (e:α) (rec:σ→Option β) (c:γ),L[n]? = some e→B rec (mk n c)=step e c fun c'=>rec (mk (n+1) c')) (he:∀ (rec:σ→Option β) (c:γ),B rec (mk L.length c)=fin c) :
  ∀ (k n:Nat) (c:γ),n≤L.length→L.length - n<k→Zbf k B (mk n c)=goL step fin (L.drop n) c
 | 0,_,_,_,h=>absurd h (Nat.not_lt_zero _)
 | k+1,n,c,hn,hk=>by
   show B (Zbf k B) (mk n c)=_
   by_cases hlt:n<L.length
   ·obtain ⟨e,hL⟩:∃ e,L[n]? = some e:=⟨_,List.getElem?_eq_getElem hlt⟩
    rw [hs n e _ c hL,Zpf hL]
    show _=step e c (goL step fin (L.drop (n+1)))
    congr 1
    funext c'
    exact Zlf L mk step fin hs he k (n+1) c' hlt (by omega)
   ·have e:n=L.length:=by omega
    subst e
    rw [he,List.drop_of_length_le (Nat.le_refl _)]
    rfl
theorem Zrc {α β γ σ:Type} {B:(σ→Option β)→σ→Option β} (L:List α) (mk:Nat→γ→σ) (step:α→γ→(γ→Option β)→Option β) (fin:γ→Option β) (hL:L.length≤4611686018427387900) (c:γ)
  (hs:∀ (n:Nat) (e:α) (rec:σ→Option β) (c:γ),L[n]? = some e→n<4611686018427387900→B rec (mk n c)=step e c fun c'=>rec (mk (n+1) c')) (he:∀ (rec:σ→Option β) (c:γ),B rec (mk L.length c)=fin c):Zbf Zdo B (mk 0 c)=goL step fin L c:=
 Zlf L mk step fin (fun n e rec c h=>hs n e rec c h (by have:=(List.getElem?_eq_some_iff.1 h).1;omega)) he Zdo 0 c (Nat.zero_le _) (by unfold Zdo;omega)
end VL
end Go.Proofs.YtmgfammllddkhaaGreatDoor
namespace Go.Proofs.YtmgfammllddkhaaGreatDoor
namespace VL
open Go.RowKit
def Tot {α:Type} (x:Option α) (Q:α→Prop):Prop:=∃ v,x=some v∧Q v
section
variable {α β γ:Type}
theorem Zd {v:α} {Q:α→Prop} (h:Q v):Tot (some v) Q:=⟨v,rfl,h⟩
theorem Zaj {x:Option α} {f:α→Option β} {Q:α→Prop} {R:β→Prop} (h:Tot x Q) (k:∀ v,Q v→Tot (f v) R):Tot (x.bind f) R:=by
 obtain ⟨v,h1,h2⟩:=h
 obtain ⟨r,h3,h4⟩:=k v h2
 exact ⟨r,by rw [h1];exact h3,h4⟩
theorem Zb {x:Option α} {f:α→Option β} {v:α} {R:β→Prop} (h:x=some v) (k:Tot (f v) R):Tot (x.bind f) R:=by
 rw [h];exact k
theorem ZG {b:Bool} {x y:Option β} {R:β→Prop} (h1:b=true→Tot x R) (h2:b=false→Tot y R):Tot (if b=true then x else y) R:=by
 cases b
 ·exact h2 rfl
 ·exact h1 rfl
theorem Zj {p:Prop} [Decidable p] {x y:Option β} {R:β→Prop} (h1:p→Tot x R) (h2:¬ p→Tot y R):Tot (if decide p=true then x else y) R:=by
 by_cases h:p
 ·rw [if_pos (decide_eq_true h)];exact h1 h
 ·rw [if_neg (by simpa using h)];exact h2 h
theorem Zca {p:Prop} [Decidable p] {x y:Option β} {R:β→Prop} (h1:¬ p→Tot x R) (h2:p→Tot y R):Tot (if (!decide p)=true then x else y) R:=by
 by_cases h:p
 ·rw [if_neg (by simpa using h)];exact h2 h
 ·rw [if_pos (by simpa using h)];exact h1 h
theorem Zap {k:γ} {f:γ→Option β} {R:β→Prop} (S:γ→Prop) (hk:S k) (hf:∀ q,S q→Tot (f q) R):Tot (letk k f) R:=hf k hk
theorem ZaL {k:γ} {f:γ→Option β} {R:β→Prop} (h:Tot (f k) R):Tot (letk k f) R:=h
theorem Zac {F:(α→Option β)→α→Option β} {a:α} {R:β→Prop} (J:α→Prop) (m:α→Nat) (h0:J a) (hm:m a≤4611686018427387900) (h:∀ a rec,J a→(∀ a',J a'→m a'<m a→Tot (rec a') R)→Tot (F rec a) R):Tot (Zbf Zdo F a) R:=
 Zom J m R h Zdo a h0 (by unfold Zdo;omega)
theorem ZeN {l:List α} {i:Int} {f:α→Option β} {R:β→Prop} (h0:0≤i) (h1:i<(l.length:Int)) (k:∀ e,e ∈ l→l[i.toNat]? = some e→Tot (f e) R):Tot ((atI l i).bind f) R:=by
 obtain ⟨n,rfl⟩:∃ n:Nat,i=(n:Int):=⟨i.toNat,by omega⟩
 have hl:n<l.length:=by omega
 have e:l[n]? = some l[n]:=List.getElem?_eq_getElem hl
 refine Zb (v:=l[n]) (Zrb e) (k _ (List.getElem_mem hl) (by simp))
theorem ZdD {s:ByteArray} {i:Int} {f:Int→Option β} {R:β→Prop} (h0:0≤i) (h1:i<(s.size:Int)) (k:∀ c:Int,0≤c→c<256→atS s i=some c→Tot (f c) R):Tot ((atS s i).bind f) R:=by
 obtain ⟨n,rfl⟩:∃ n:Nat,i=(n:Int):=⟨i.toNat,by omega⟩
 have hl:n<s.size:=by omega
 refine Zb (Zpe hl) (k _ (by omega) ?_ (Zpe hl))
 have:=(s[n]).toNat_lt
 omega
theorem Zbh {s:ByteArray} {a b:Int} {f:ByteArray→Option β} {R:β→Prop} (h0:0≤a) (h1:a≤b) (h2:b≤(s.size:Int)) (k:∀ m:ByteArray,m=s.extract a.toNat b.toNat→(m.size:Int)=b - a→Tot (f m) R):Tot ((ZeZ s a b).bind f) R:=by
 refine Zb (v:=s.extract a.toNat b.toNat) (by unfold ZeZ;rw [if_pos ⟨h0,h1,h2⟩]) (k _ rfl ?_)
 rw [ByteArray.size_extract]
 omega
theorem Zfz {w:Nat} {a b:List α} {f:List α→Option β} {R:β→Prop} (n:Nat) (h:a.length+b.length≤n) (h2:n * w≤140737488355328) (h3:n≤9223372036854775807) (k:Tot (f (a++b)) R):Tot ((Zjs w a b).bind f) R:=
 Zb (Zmm n h h2 h3) k
theorem ZqZ {a b:ByteArray} {f:ByteArray→Option β} {R:β→Prop} (h:a.size+b.size≤9223372036854775807) (k:(a++b).size=a.size+b.size→Tot (f (a++b)) R):Tot ((Zi7 a b).bind f) R:=
 Zb (Zmn h) (k (by rw [ByteArray.size_append]))
theorem Zq0 {k:IntKind} {a b:Int} {f:Int→Option β} {R:β→Prop} (h:0≤b) (g:Tot (f (a.fdiv (2 ^ (min b.toNat k.bits)))) R):Tot ((ZrL k a b).bind f) R:=
 Zb (by unfold ZrL;rw [if_neg (by omega)]) g
end
end VL
end Go.Proofs.YtmgfammllddkhaaGreatDoor
namespace Go.Proofs.YtmgfammllddkhaaGreatDoor
namespace VL
theorem Zhi {p q:Prop} (k:q) (h:q→p:=by
 (intro k)
 (first
  | refine Zm rfl (by (conv=>lhs;whnf);try rfl) ?_
  | refine Zz rfl rfl rfl ?_
  | refine Zi rfl rfl ?_
  | refine Zq rfl (by (conv=>lhs;whnf);try rfl) ?_
  | refine ZQ rfl rfl rfl rfl (by (conv=>lhs;whnf);try rfl) ?_
  | refine ZhG rfl rfl rfl rfl (by (conv=>lhs;whnf);try rfl) ?_
  | refine Zaz rfl rfl ?_
  | refine ZjE rfl rfl ?_
  | refine Zr8 rfl rfl ?_
  | refine g_bits rfl rfl rfl rfl ?_
  | refine ZtE rfl rfl rfl (by decide) ?_
  | refine Zgs rfl rfl ?_
  | refine Zjc rfl (by (conv=>lhs;whnf);try rfl) (by (conv=>lhs;whnf);try rfl) (by rfl) ?_
  | refine ZcK rfl rfl ?_
  | refine ZaG rfl rfl rfl (by (conv=>lhs;whnf);try rfl) (by (conv=>lhs;whnf);try rfl) (by rfl) (by rfl) (Nat.le_of_ble_eq_true rfl) (by (conv=>lhs;whnf);try rfl) ?_
  | refine Zbm rfl rfl ?_
  | refine Zaa rfl rfl rfl (by rfl) (by decide) (by (conv=>lhs;whnf);try rfl) ?_
  | refine Zer rfl rfl rfl ?_
  | refine ZqK rfl rfl ?_
  | refine ZaQ rfl rfl (by (conv=>lhs;whnf);try rfl) ?_
  | refine g_field rfl rfl rfl ?_
  | refine Zc ?_
  | refine Zb2 (by kernel_rfl) ?_
  | refine Zh ?_
  | refine Za ?_
  | refine Zag ?_
  | refine Zy ?_
  | refine Za3 ?_
  | refine ZaX ?_
  | refine Zw ?_
  | refine ZcR ?_
  | refine Zqs ?_
  | refine ZO ?_
  | refine Zgh ?_
  | refine Zqt ?_)
 (exact k)):p:=h k
instance:Ld Tryz.prog 3 false 1:=⟨by kernel_rfl⟩
instance:Kd Tryz.prog 3 .i64:=⟨by kernel_rfl⟩
instance:Ld Tryz.prog 4 false 1:=⟨by kernel_rfl⟩
instance:Ld Tryz.prog 5 false 1:=⟨by kernel_rfl⟩
instance:Kd Tryz.prog 5 .u8:=⟨by kernel_rfl⟩
instance:Ld Tryz.prog 9 false 1:=⟨by kernel_rfl⟩
instance:Ld Tryz.prog 23 false 1:=⟨by kernel_rfl⟩
instance:Sl Tryz.prog 23 42 3 32 [.int .i64 0,.int .i64 0,.str ⟨#[]⟩]:=⟨by kernel_rfl,rfl,rfl⟩
instance:Ld Tryz.prog 24 false 1:=⟨by kernel_rfl⟩
instance:Sl Tryz.prog 24 45 3 40 [.int .i64 0,.str ⟨#[]⟩,.str ⟨#[]⟩]:=⟨by kernel_rfl,rfl,rfl⟩
instance:Ze Tryz.prog 29 [.int .i64 0,.str ⟨#[]⟩]:=⟨by kernel_rfl⟩
instance:Ld Tryz.prog 29 true 2:=⟨by kernel_rfl⟩
instance:EqT Tryz.prog 29:=⟨by kernel_rfl⟩
instance:Fld Tryz.prog 29 0 0 false 1:=⟨by kernel_rfl,rfl⟩
instance:Fld Tryz.prog 29 1 1 false 1:=⟨by kernel_rfl,rfl⟩
instance:St Tryz.prog 29 [some (0,1),some (1,1)] [.int .i64 0,.str ⟨#[]⟩]:=⟨by kernel_rfl⟩
instance:Sl Tryz.prog 35 3 1 8 [.int .i64 0]:=⟨by kernel_rfl,rfl,rfl⟩
instance:Ld Tryz.prog 42 true 3:=⟨by kernel_rfl⟩
instance:EqT Tryz.prog 42:=⟨by kernel_rfl⟩
instance:St Tryz.prog 42 [some (0,1),some (1,2)] [.int .i64 0,.int .i64 0,.str ⟨#[]⟩]:=⟨by kernel_rfl⟩
instance:Ld Tryz.prog 45 true 3:=⟨by kernel_rfl⟩
instance:EqT Tryz.prog 45:=⟨by kernel_rfl⟩
instance:Fld Tryz.prog 45 0 0 true 2:=⟨by kernel_rfl,rfl⟩
instance:Fld Tryz.prog 45 1 2 false 1:=⟨by kernel_rfl,rfl⟩
instance:St Tryz.prog 45 [some (0,2),some (2,1)] [.int .i64 0,.str ⟨#[]⟩,.str ⟨#[]⟩]:=⟨by kernel_rfl⟩
instance:Sl Tryz.prog 48 9 1 16 [.str ⟨#[]⟩]:=⟨by kernel_rfl,rfl,rfl⟩
instance:Ld Tryz.prog 57 false 1:=⟨by kernel_rfl⟩
instance:Sl Tryz.prog 57 78 5 80 [.int .i64 0,.int .i64 0,.str ⟨#[]⟩,.nil,.nil]:=⟨by kernel_rfl,rfl,rfl⟩
instance:Fld Tryz.prog 62 0 0 false 1:=⟨by kernel_rfl,rfl⟩
instance:Fld Tryz.prog 62 1 1 false 1:=⟨by kernel_rfl,rfl⟩
instance:St Tryz.prog 62 [some (0,1),some (1,1)] [.nil,.nil]:=⟨by kernel_rfl⟩
instance:Ld Tryz.prog 76 false 1:=⟨by kernel_rfl⟩
instance:Sl Tryz.prog 76 111 3 56 [.bool false,.nil,.nil]:=⟨by kernel_rfl,rfl,rfl⟩
instance:Ze Tryz.prog 78 [.int .i64 0,.int .i64 0,.str ⟨#[]⟩,.nil,.nil]:=⟨by kernel_rfl⟩
instance:Ld Tryz.prog 78 true 5:=⟨by kernel_rfl⟩
instance:Fld Tryz.prog 78 0 0 false 1:=⟨by kernel_rfl,rfl⟩
instance:Fld Tryz.prog 78 1 1 false 1:=⟨by kernel_rfl,rfl⟩
instance:Fld Tryz.prog 78 2 2 false 1:=⟨by kernel_rfl,rfl⟩
instance:Fld Tryz.prog 78 3 3 false 1:=⟨by kernel_rfl,rfl⟩
instance:Fld Tryz.prog 78 4 4 false 1:=⟨by kernel_rfl,rfl⟩
instance:St Tryz.prog 78 [some (0,1),some (1,1),some (2,1),some (3,1),some (4,1)] [.int .i64 0,.int .i64 0,.str ⟨#[]⟩,.nil,.nil]:=⟨by kernel_rfl⟩
instance:Sl Tryz.prog 94 105 3 24 [.int .i64 0,.int .i64 0,.int .i64 0]:=⟨by kernel_rfl,rfl,rfl⟩
instance:Ld Tryz.prog 98 false 1:=⟨by kernel_rfl⟩
instance:Fld Tryz.prog 100 0 0 false 1:=⟨by kernel_rfl,rfl⟩
instance:Fld Tryz.prog 100 1 1 false 1:=⟨by kernel_rfl,rfl⟩
instance:Fld Tryz.prog 100 2 2 false 1:=⟨by kernel_rfl,rfl⟩
instance:Fld Tryz.prog 100 3 3 false 1:=⟨by kernel_rfl,rfl⟩
instance:Fld Tryz.prog 100 4 4 false 1:=⟨by kernel_rfl,rfl⟩
instance:St Tryz.prog 100 [some (0,1),some (1,1),some (2,1),some (3,1),some (4,1)] [.int .i64 0,.int .i64 0,.int .i64 0,.nil,.nil]:=⟨by kernel_rfl⟩
instance:Ld Tryz.prog 101 false 1:=⟨by kernel_rfl⟩
instance:Sl Tryz.prog 101 98 1 8 [.un]:=⟨by kernel_rfl,rfl,rfl⟩
instance:Fld Tryz.prog 103 0 0 false 1:=⟨by kernel_rfl,rfl⟩
instance:St Tryz.prog 103 [some (0,1)] [.nil]:=⟨by kernel_rfl⟩
instance:Ze Tryz.prog 105 [.int .i64 0,.int .i64 0,.int .i64 0]:=⟨by kernel_rfl⟩
instance:Ld Tryz.prog 105 true 3:=⟨by kernel_rfl⟩
instance:Fld Tryz.prog 105 0 0 false 1:=⟨by kernel_rfl,rfl⟩
instance:Fld Tryz.prog 105 1 1 false 1:=⟨by kernel_rfl,rfl⟩
instance:Fld Tryz.prog 105 2 2 false 1:=⟨by kernel_rfl,rfl⟩
instance:St Tryz.prog 105 [some (0,1),some (1,1),some (2,1)] [.int .i64 0,.int .i64 0,.int .i64 0]:=⟨by kernel_rfl⟩
instance:Ze Tryz.prog 111 [.bool false,.nil,.nil]:=⟨by kernel_rfl⟩
instance:Ld Tryz.prog 111 true 3:=⟨by kernel_rfl⟩
instance:Fld Tryz.prog 111 0 0 false 1:=⟨by kernel_rfl,rfl⟩
instance:Fld Tryz.prog 111 1 1 false 1:=⟨by kernel_rfl,rfl⟩
instance:Fld Tryz.prog 111 2 2 false 1:=⟨by kernel_rfl,rfl⟩
instance:St Tryz.prog 111 [some (0,1),some (1,1),some (2,1)] [.bool false,.nil,.nil]:=⟨by kernel_rfl⟩
instance:Kd Tryz.prog 114 .u64:=⟨by kernel_rfl⟩
instance:Sl Tryz.prog 141 5 1 1 [.int .u8 0]:=⟨by kernel_rfl,rfl,rfl⟩
instance:Ze Tryz.prog 181 [.str ⟨#[]⟩,.str ⟨#[]⟩,.str ⟨#[]⟩]:=⟨by kernel_rfl⟩
instance:Ld Tryz.prog 181 true 3:=⟨by kernel_rfl⟩
instance:Ix Tryz.prog 181 3:=⟨by kernel_rfl⟩
instance:Az Tryz.prog 181 1 [.str ⟨#[]⟩,.str ⟨#[]⟩,.str ⟨#[]⟩]:=⟨by kernel_rfl,by kernel_rfl⟩
instance:WInv Tryz.prog:=⟨fun W=>(∃ m,W.cell? ⟨0,0,none⟩=some (.int .i64 m))∧True⟩
theorem mix:Tryz.prog.follows .mixedOrders=true:=by kernel_rfl
end VL
end Go.Proofs.YtmgfammllddkhaaGreatDoor

namespace Go.Proofs.YtmgfammllddkhaaGreatDoor
open VL
def Title.cs (x:Title):List PV:=[.int .i64 x.space,.str x.name]
def Title.pv (x:Title):PV:=.agg x.cs
end Go.Proofs.YtmgfammllddkhaaGreatDoor
namespace Go.Proofs.YtmgfammllddkhaaGreatDoor
open VL Go.RowKit
theorem args2 {x:Ctx} {p q:PV} {vs:Array Value} (h:Pre x [p,q] none vs):∃ v w,vs = #[v,w]∧Rep x p v∧Rep x q w:=by
 have hs:vs.size=2:=h.size.symm
 refine ⟨vs[0],vs[1],?_,h.rep 0 p _ rfl (Array.getElem?_eq_getElem (by omega)),h.rep 1 q _ rfl (Array.getElem?_eq_getElem (by omega))⟩
 apply Array.ext
 ·exact hs
 ·intro i h1 h2
  match i,(show i<2 by omega) with
  | 0,_=>rfl
  | 1,_=>rfl
theorem ZsN {x:Ctx} {s:ByteArray} {v:Value} (h:Rep x (.str s) v):v = .string s:=by cases h;rfl
end Go.Proofs.YtmgfammllddkhaaGreatDoor
