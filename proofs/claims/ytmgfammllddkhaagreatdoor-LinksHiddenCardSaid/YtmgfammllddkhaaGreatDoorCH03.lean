/- A variable of the package is read; and what it is that a function as a Lean function returns something. No program is named. | One step of a run, whichever it is. No program is named. | What the rules ask of the types. Printed by facts.sh. | The types of the wiki, and how their values lie in cells. No program is named. Written by types.py. | How the data of the wiki are written as values. No program is named. Written by mkpv.py. | Arguments two by two. -/
import Derived.Test.YtmgfammllddkhaaGreatDoorCH02
import Derived.Test.YtmgfammllddkhaaGreatDoorRows
import Derived.Test.YtmgfammllddkhaaGreatDoorCH01
namespace Go.Proofs.YtmgfammllddkhaaGreatDoor
namespace VL
open Go.RowKit
def Tot {α:Type} (x:Option α) (Q:α→Prop):Prop:=∃ v,x=some v∧Q v
section
variable {α β γ:Type}
theorem Zah {v:α} {Q:α→Prop} (h:Q v):Tot (some v) Q:=⟨v,rfl,h⟩
theorem ZE {x:Option α} {f:α→Option β} {v:α} {R:β→Prop} (h:x=some v) (k:Tot (f v) R):Tot (x.bind f) R:=by
 rw [h];exact k
theorem ZcZ {b:Bool} {x y:Option β} {R:β→Prop} (h1:b=true→Tot x R) (h2:b=false→Tot y R):Tot (if b=true then x else y) R:=by
 cases b
 ·exact h2 rfl
 ·exact h1 rfl
theorem Zav {p:Prop} [Decidable p] {x y:Option β} {R:β→Prop} (h1:p→Tot x R) (h2:¬ p→Tot y R):Tot (if decide p=true then x else y) R:=by
 by_cases h:p
 ·rw [if_pos (decide_eq_true h)];exact h1 h
 ·rw [if_neg (by simpa using h)];exact h2 h
theorem ZlF {p:Prop} [Decidable p] {x y:Option β} {R:β→Prop} (h1:¬ p→Tot x R) (h2:p→Tot y R):Tot (if (!decide p)=true then x else y) R:=by
 by_cases h:p
 ·rw [if_neg (by simpa using h)];exact h2 h
 ·rw [if_pos (by simpa using h)];exact h1 h
theorem ZjY {k:γ} {f:γ→Option β} {R:β→Prop} (S:γ→Prop) (hk:S k) (hf:∀ q,S q→Tot (f q) R):Tot (letk k f) R:=hf k hk
theorem ZbO {k:γ} {f:γ→Option β} {R:β→Prop} (h:Tot (f k) R):Tot (letk k f) R:=h
theorem ZhJ {F:(α→Option β)→α→Option β} {a:α} {R:β→Prop} (J:α→Prop) (m:α→Nat) (h0:J a) (hm:m a≤4611686018427387900) (h:∀ a rec,J a→(∀ a',J a'→m a'<m a→Tot (rec a') R)→Tot (F rec a) R):Tot (Zbv Zed F a) R:=
 Znr J m R h Zed a h0 (by unfold Zed;omega)
theorem ZjZ {s:ByteArray} {a b:Int} {f:ByteArray→Option β} {R:β→Prop} (h0:0≤a) (h1:a≤b) (h2:b≤(s.size:Int)) (k:∀ m:ByteArray,m=s.extract a.toNat b.toNat→(m.size:Int)=b - a→Tot (f m) R):Tot ((Ze3 s a b).bind f) R:=by
 refine ZE (v:=s.extract a.toNat b.toNat) (by unfold Ze3;rw [if_pos ⟨h0,h1,h2⟩]) (k _ rfl ?_)
 rw [ByteArray.size_extract]
 omega
end
end VL
end Go.Proofs.YtmgfammllddkhaaGreatDoor
namespace Go.Proofs.YtmgfammllddkhaaGreatDoor
namespace VL
theorem Zg9 {p q:Prop} (k:q) (h:q→p:=by
 (intro k)
 (first
  | refine ZA rfl (by (conv=>lhs;whnf);try rfl) ?_
  | refine Zx rfl rfl rfl ?_
  | refine Zc rfl rfl ?_
  | refine Zi rfl (by (conv=>lhs;whnf);try rfl) ?_
  | refine ZN rfl rfl rfl rfl (by (conv=>lhs;whnf);try rfl) ?_
  | refine ZP rfl rfl rfl rfl (by (conv=>lhs;whnf);try rfl) ?_
  | refine ZR rfl rfl ?_
  | refine Zd rfl rfl ?_
  | refine Zz rfl rfl ?_
  | refine g_bits rfl rfl rfl rfl ?_
  | refine ZS rfl rfl rfl (by decide) ?_
  | refine ZU rfl rfl ?_
  | refine ZT rfl (by (conv=>lhs;whnf);try rfl) (by (conv=>lhs;whnf);try rfl) (by rfl) ?_
  | refine Zl rfl rfl ?_
  | refine Zm rfl rfl rfl (by (conv=>lhs;whnf);try rfl) (by (conv=>lhs;whnf);try rfl) (by rfl) (by rfl) (Nat.le_of_ble_eq_true rfl) (by (conv=>lhs;whnf);try rfl) ?_
  | refine Zn rfl rfl ?_
  | refine Za rfl rfl rfl (by rfl) (by decide) (by (conv=>lhs;whnf);try rfl) ?_
  | refine Zf rfl rfl rfl ?_
  | refine ZQ rfl rfl ?_
  | refine ZB rfl rfl (by (conv=>lhs;whnf);try rfl) ?_
  | refine g_field rfl rfl rfl ?_
  | refine Zo ?_
  | refine Zp (by kernel_rfl) ?_
  | refine Zr ?_
  | refine Zb ?_
  | refine Zh ?_
  | refine Zj ?_
  | refine Zs ?_
  | refine Zk ?_
  | refine Zq ?_
  | refine Zt ?_
  | refine ZC ?_
  | refine Zg ?_
  | refine Zu ?_
  | refine ZD ?_)
 (exact k)):p:=h k
instance:Ld Tryz.prog 3 false 1:=⟨by kernel_rfl⟩
instance:Kd Tryz.prog 3 .i64:=⟨by kernel_rfl⟩
instance:Ld Tryz.prog 4 false 1:=⟨by kernel_rfl⟩
instance:Ld Tryz.prog 5 false 1:=⟨by kernel_rfl⟩
instance:Kd Tryz.prog 5 .u8:=⟨by kernel_rfl⟩
instance:Ld Tryz.prog 9 false 1:=⟨by kernel_rfl⟩
instance:Ld Tryz.prog 23 false 1:=⟨by kernel_rfl⟩
instance:Sl Tryz.prog 23 42 3 32 [.int .i64 0,.int .i64 0,.str ⟨#[]⟩]:=⟨by kernel_rfl,rfl,rfl⟩
instance:Ld Tryz.prog 24 false 1:=⟨by kernel_rfl⟩
instance:Sl Tryz.prog 24 45 3 40 [.int .i64 0,.str ⟨#[]⟩,.str ⟨#[]⟩]:=⟨by kernel_rfl,rfl,rfl⟩
instance:Ze Tryz.prog 29 [.int .i64 0,.str ⟨#[]⟩]:=⟨by kernel_rfl⟩
instance:Ld Tryz.prog 29 true 2:=⟨by kernel_rfl⟩
instance:EqT Tryz.prog 29:=⟨by kernel_rfl⟩
instance:Fld Tryz.prog 29 0 0 false 1:=⟨by kernel_rfl,rfl⟩
instance:Fld Tryz.prog 29 1 1 false 1:=⟨by kernel_rfl,rfl⟩
instance:St Tryz.prog 29 [some (0,1),some (1,1)] [.int .i64 0,.str ⟨#[]⟩]:=⟨by kernel_rfl⟩
instance:Sl Tryz.prog 35 3 1 8 [.int .i64 0]:=⟨by kernel_rfl,rfl,rfl⟩
instance:Ld Tryz.prog 42 true 3:=⟨by kernel_rfl⟩
instance:EqT Tryz.prog 42:=⟨by kernel_rfl⟩
instance:Fld Tryz.prog 42 0 0 false 1:=⟨by kernel_rfl,rfl⟩
instance:Fld Tryz.prog 42 1 1 true 2:=⟨by kernel_rfl,rfl⟩
instance:St Tryz.prog 42 [some (0,1),some (1,2)] [.int .i64 0,.int .i64 0,.str ⟨#[]⟩]:=⟨by kernel_rfl⟩
instance:Ld Tryz.prog 45 true 3:=⟨by kernel_rfl⟩
instance:EqT Tryz.prog 45:=⟨by kernel_rfl⟩
instance:Fld Tryz.prog 45 0 0 true 2:=⟨by kernel_rfl,rfl⟩
instance:St Tryz.prog 45 [some (0,2),some (2,1)] [.int .i64 0,.str ⟨#[]⟩,.str ⟨#[]⟩]:=⟨by kernel_rfl⟩
instance:Sl Tryz.prog 48 9 1 16 [.str ⟨#[]⟩]:=⟨by kernel_rfl,rfl,rfl⟩
instance:Ld Tryz.prog 57 false 1:=⟨by kernel_rfl⟩
instance:Sl Tryz.prog 57 78 5 80 [.int .i64 0,.int .i64 0,.str ⟨#[]⟩,.nil,.nil]:=⟨by kernel_rfl,rfl,rfl⟩
instance:Fld Tryz.prog 62 0 0 false 1:=⟨by kernel_rfl,rfl⟩
instance:Fld Tryz.prog 62 1 1 false 1:=⟨by kernel_rfl,rfl⟩
instance:St Tryz.prog 62 [some (0,1),some (1,1)] [.nil,.nil]:=⟨by kernel_rfl⟩
instance:Ld Tryz.prog 76 false 1:=⟨by kernel_rfl⟩
instance:Sl Tryz.prog 76 111 3 56 [.bool false,.nil,.nil]:=⟨by kernel_rfl,rfl,rfl⟩
instance:Ze Tryz.prog 78 [.int .i64 0,.int .i64 0,.str ⟨#[]⟩,.nil,.nil]:=⟨by kernel_rfl⟩
instance:Ld Tryz.prog 78 true 5:=⟨by kernel_rfl⟩
instance:Fld Tryz.prog 78 0 0 false 1:=⟨by kernel_rfl,rfl⟩
instance:Fld Tryz.prog 78 1 1 false 1:=⟨by kernel_rfl,rfl⟩
instance:Fld Tryz.prog 78 2 2 false 1:=⟨by kernel_rfl,rfl⟩
instance:Fld Tryz.prog 78 3 3 false 1:=⟨by kernel_rfl,rfl⟩
instance:Fld Tryz.prog 78 4 4 false 1:=⟨by kernel_rfl,rfl⟩
instance:St Tryz.prog 78 [some (0,1),some (1,1),some (2,1),some (3,1),some (4,1)] [.int .i64 0,.int .i64 0,.str ⟨#[]⟩,.nil,.nil]:=⟨by kernel_rfl⟩
instance:Sl Tryz.prog 94 105 3 24 [.int .i64 0,.int .i64 0,.int .i64 0]:=⟨by kernel_rfl,rfl,rfl⟩
instance:Ld Tryz.prog 98 false 1:=⟨by kernel_rfl⟩
instance:Fld Tryz.prog 100 0 0 false 1:=⟨by kernel_rfl,rfl⟩
instance:Fld Tryz.prog 100 1 1 false 1:=⟨by kernel_rfl,rfl⟩
instance:Fld Tryz.prog 100 2 2 false 1:=⟨by kernel_rfl,rfl⟩
instance:Fld Tryz.prog 100 3 3 false 1:=⟨by kernel_rfl,rfl⟩
instance:Fld Tryz.prog 100 4 4 false 1:=⟨by kernel_rfl,rfl⟩
instance:St Tryz.prog 100 [some (0,1),some (1,1),some (2,1),some (3,1),some (4,1)] [.int .i64 0,.int .i64 0,.int .i64 0,.nil,.nil]:=⟨by kernel_rfl⟩
instance:Ld Tryz.prog 101 false 1:=⟨by kernel_rfl⟩
instance:Sl Tryz.prog 101 98 1 8 [.un]:=⟨by kernel_rfl,rfl,rfl⟩
instance:Fld Tryz.prog 103 0 0 false 1:=⟨by kernel_rfl,rfl⟩
instance:St Tryz.prog 103 [some (0,1)] [.nil]:=⟨by kernel_rfl⟩
instance:Ze Tryz.prog 105 [.int .i64 0,.int .i64 0,.int .i64 0]:=⟨by kernel_rfl⟩
instance:Ld Tryz.prog 105 true 3:=⟨by kernel_rfl⟩
instance:Fld Tryz.prog 105 0 0 false 1:=⟨by kernel_rfl,rfl⟩
instance:Fld Tryz.prog 105 1 1 false 1:=⟨by kernel_rfl,rfl⟩
instance:Fld Tryz.prog 105 2 2 false 1:=⟨by kernel_rfl,rfl⟩
instance:St Tryz.prog 105 [some (0,1),some (1,1),some (2,1)] [.int .i64 0,.int .i64 0,.int .i64 0]:=⟨by kernel_rfl⟩
instance:Ze Tryz.prog 111 [.bool false,.nil,.nil]:=⟨by kernel_rfl⟩
instance:Ld Tryz.prog 111 true 3:=⟨by kernel_rfl⟩
instance:Fld Tryz.prog 111 0 0 false 1:=⟨by kernel_rfl,rfl⟩
instance:Fld Tryz.prog 111 1 1 false 1:=⟨by kernel_rfl,rfl⟩
instance:Fld Tryz.prog 111 2 2 false 1:=⟨by kernel_rfl,rfl⟩
instance:St Tryz.prog 111 [some (0,1),some (1,1),some (2,1)] [.bool false,.nil,.nil]:=⟨by kernel_rfl⟩
instance:Kd Tryz.prog 114 .u64:=⟨by kernel_rfl⟩
instance:Sl Tryz.prog 141 5 1 1 [.int .u8 0]:=⟨by kernel_rfl,rfl,rfl⟩
instance:Kd Tryz.prog 162 .u64:=⟨by kernel_rfl⟩
instance:Ze Tryz.prog 181 [.str ⟨#[]⟩,.str ⟨#[]⟩,.str ⟨#[]⟩]:=⟨by kernel_rfl⟩
instance:Ld Tryz.prog 181 true 3:=⟨by kernel_rfl⟩
instance:Ix Tryz.prog 181 3:=⟨by kernel_rfl⟩
instance:Az Tryz.prog 181 1 [.str ⟨#[]⟩,.str ⟨#[]⟩,.str ⟨#[]⟩]:=⟨by kernel_rfl,by kernel_rfl⟩
instance:WInv Tryz.prog:=⟨fun W=>(∃ m,W.cell? ⟨0,0,none⟩=some (.int .i64 m))∧True⟩
theorem mix:Tryz.prog.follows .mixedOrders=true:=by kernel_rfl
end VL
end Go.Proofs.YtmgfammllddkhaaGreatDoor

namespace Go.Proofs.YtmgfammllddkhaaGreatDoor
open VL
def Title.cs (x:Title):List PV:=[.int .i64 x.space,.str x.name]
def Title.pv (x:Title):PV:=.agg x.cs
end Go.Proofs.YtmgfammllddkhaaGreatDoor
namespace Go.Proofs.YtmgfammllddkhaaGreatDoor
open VL Go.RowKit
theorem args2 {x:Ctx} {p q:PV} {vs:Array Value} (h:Pre x [p,q] none vs):∃ v w,vs = #[v,w]∧Rep x p v∧Rep x q w:=by
 have hs:vs.size=2:=h.size.symm
 refine ⟨vs[0],vs[1],?_,h.rep 0 p _ rfl (Array.getElem?_eq_getElem (by omega)),h.rep 1 q _ rfl (Array.getElem?_eq_getElem (by omega))⟩
 apply Array.ext
 ·exact hs
 ·intro i h1 h2
  match i,(show i<2 by omega) with
  | 0,_=>rfl
  | 1,_=>rfl
theorem Zq5 {x:Ctx} {s:ByteArray} {v:Value} (h:Rep x (.str s) v):v = .string s:=by cases h;rfl
end Go.Proofs.YtmgfammllddkhaaGreatDoor
