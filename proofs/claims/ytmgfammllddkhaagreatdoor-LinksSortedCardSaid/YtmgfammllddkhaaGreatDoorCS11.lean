/- The parser's take: what a token does. | The parser's take, walked. | The parser's Parse. | tree.Plain: a list of nodes that is plain text. | Functions of the program as Lean functions. Written by fxgen.py. | A function that hands back a copy of a slice of plain cells. No program is named. | strings.Compare, as the others are written. | Functions of the program as Lean functions. Written by fxgen.py. | == and != of links. | A library function that turns a row of plain values and has a function behind it, as a contract; sorting. No program is named. | Comparisons that order totally. No program is named. | The comparison of two links, in whatever world: blocks and draws are all that come. | DERIVED: THE SHELF's CONTRACTS AT THIS DUMP, IN PLAIN WORDS (tools/lay-plain.mjs out of 'TryzShelf2.lean', which tools/lay-shelf.mjs wrote): THE SAME DECLARATIONS UNDER THE SAME NAMES: 'import', 'namespace', 'open', 'def', 'theorem' AND NOTHING ELSE: no command of the shelf's: FOR A HAND-IN. .. | slices.SortFunc at links, of whatever length. | Functions of the program as Lean functions. Written by fxgen.py. -/
import Derived.Test.YtmgfammllddkhaaGreatDoorCS10
import Derived.Test.YtmgfammllddkhaaGreatDoorCS04
import Derived.Test.YtmgfammllddkhaaGreatDoorCS03
import Derived.Test.YtmgfammllddkhaaGreatDoorCS09
import Derived.Test.YtmgfammllddkhaaGreatDoorCS07
import Derived.Test.YtmgfammllddkhaaGreatDoorCS06
import Derived.Shelf.SlSortCmp.NoneTotal
import Derived.Lib.Bytealg
import Derived.Lib.Small
import Derived.Shelf.SlGeneric
import Derived.Ground.SlsfProg
import Derived.Test.YtmgfammllddkhaaGreatDoorProg
namespace Go.Proofs.YtmgfammllddkhaaGreatDoor
open VL
def ZkI (k t c:Int) (x:ByteArray) (e:El) (r:List El):Option (El×List El):=if 20≤r.length then (Zby e x).map fun e'=>(e',r) else some (⟨k,t,c,[],none⟩,e::r)
def Zs7 (e:El):Option El:=if e.kind=3 then match e.args with
  | none=>some ⟨e.kind,e.tag,e.count,e.list,some ([],⟨false,[],[]⟩)⟩
  | some (pre,a)=>if pre.length+1≤1000000 then some ⟨e.kind,e.tag,e.count,e.list,some (pre ++ [a],⟨false,[],[]⟩)⟩ else none
 else Zby e ⟨#[124]⟩
def Zn9 (s:ByteArray) (t:Tok) (e:El) (r:List El):Option (El×List El):=(Zb4 s t).bind fun x=>
 if t.kind=1∨t.kind=2 then (Zby e x).map fun e'=>(e',r)
 else if t.kind=9 then (Zf9 e ⟨2,0,x,[],[]⟩).map fun e'=>(e',r)
 else if t.kind=10 then (ZfP x 8 (w64 ((x.size:Int) - 9))).bind fun y=>(Zf9 e ⟨3,0,y,[],[]⟩).map fun e'=>(e',r)
 else if t.kind=3 then ZkI 3 0 x.size x e r
 else if t.kind=5 then ZkI 1 0 0 x e r
 else if t.kind=11 then (Zdc s t).bind fun k=>ZkI 2 k 0 x e r
 else if t.kind=7 then (Zs7 e).map fun e'=>(e',r)
 else if t.kind=8 then (Zix e).map fun e'=>(e',r)
 else if t.kind=6 then ZcP e r
 else if t.kind=12 then (Zdc s t).bind fun k=>Zd9 k x e r
 else if t.kind=4 then ZaK (x.size+1) x.size e r
 else some (e,r)
theorem Zvb (e e':El) (r:List El) (hf:fit e r) (h:Zs7 e=some e'):PC 106 [] e r (.tup []) e' r:=by
 unfold Zs7 at h
 split at h
 ·rename_i hk
  obtain ⟨kind,tag,count,list,args⟩:=e
  dsimp only at hk
  subst hk
  rcases args with _ | ⟨pre,a⟩
  ·injection h with h
   rw [← h]
   exact Zrf tag count list r hf.1.1
  ·dsimp only at h
   split at h
   ·injection h with h
    rw [← h]
    exact Zrh tag count list pre a r hf.1
   ·cases h
 ·rename_i hk
  exact Zre e e' r hf.1 hf.2 hk h
theorem Zrw {e e':El} {r:List El} (hf:fit e r) (h:Zs7 e=some e'):fit e' r:=by
 unfold Zs7 at h
 split at h
 ·rename_i hk
  obtain ⟨kind,tag,count,list,args⟩:=e
  dsimp only at hk
  subst hk
  rcases args with _ | ⟨pre,a⟩
  ·injection h with h
   rw [← h]
   exact ⟨⟨hf.1.1,fun q hq=>by injection hq with hq;rw [← hq];exact Nat.zero_le _⟩,by show 0≤_;omega⟩
  ·dsimp only at h
   split at h
   ·rename_i hp
    injection h with h
    rw [← h]
    exact ⟨⟨hf.1.1,fun q hq=>by injection hq with hq;rw [← hq];simpa using hp⟩,by show 0≤_;omega⟩
   ·cases h
 ·exact Zaj hf h
theorem Zs8 (e e':El) (r:List El) (hf:fit e r) (h:Zix e=some e'):PC 107 [] e r (.tup []) e' r:=by
 obtain ⟨kind,tag,count,list,args⟩:=e
 unfold Zix at h
 rcases args with _ | ⟨pre,⟨named,name,value⟩⟩
 ·exact ZjT _ e' r hf.1 hf.2 (.inr (.inl rfl)) h
 ·dsimp only at h
  split at h
  ·rename_i hc
   obtain ⟨h1,h2⟩:=hc
   subst h1 h2
   injection h with h
   rw [← h]
   exact Zo6 tag count list pre name value r hf.1
  ·rename_i hc
   refine ZjT _ e' r hf.1 hf.2 ?_ h
   by_cases hk:kind=3
   ·refine .inr (.inr ⟨pre,_,rfl,?_⟩)
    cases named
    ·exact absurd ⟨hk,rfl⟩ hc
    ·rfl
   ·exact .inl hk
theorem Zoa {e e':El} {r:List El} (hf:fit e r) (h:Zix e=some e'):fit e' r:=by
 obtain ⟨kind,tag,count,list,args⟩:=e
 unfold Zix at h
 rcases args with _ | ⟨pre,⟨named,name,value⟩⟩
 ·exact Zaj hf h
 ·dsimp only at h
  split at h
  ·rename_i hc
   obtain ⟨h1,h2⟩:=hc
   subst h1 h2
   injection h with h
   rw [← h]
   exact ⟨⟨hf.1.1,fun q hq=>by injection hq with hq;rw [← hq];exact hf.1.2 (pre,⟨false,name,value⟩) rfl⟩,by show 0≤_;omega⟩
  ·exact Zaj hf h
theorem ZmH (e e':El) (r r':List El) (hf:fits e r) (h:ZcP e r=some (e',r')):PC 108 [] e r (.tup []) e' r':=by
 unfold ZcP at h
 split at h
 ·rename_i hk
  rcases r with _ | ⟨e2,r⟩
  ·cases h
  obtain ⟨a,h1,h⟩:=Option.bind_eq_some_iff.1 h
  obtain ⟨b,h2,h⟩:=Option.bind_eq_some_iff.1 h
  obtain ⟨c,h3,h⟩:=Option.map_eq_some_iff.1 h
  injection h with q1 q2
  subst q1 q2
  obtain ⟨kind,tag,count,list,args⟩:=e
  dsimp only at hk
  subst hk
  exact ZkC tag count list args e2 a b c r (ZaC hf).1 (Zag (ZaC hf)) h1 h2 h3
 ·rename_i hk
  obtain ⟨c,h3,h⟩:=Option.map_eq_some_iff.1 h
  injection h with q1 q2
  subst q1 q2
  exact ZjB e c r (Zag hf) hk h3
theorem ZiO {e e':El} {r r':List El} (hf:fits e r) (h:ZcP e r=some (e',r')):fits e' r':=by
 unfold ZcP at h
 split at h
 ·rcases r with _ | ⟨e2,r⟩
  ·cases h
  obtain ⟨a,h1,h⟩:=Option.bind_eq_some_iff.1 h
  obtain ⟨b,h2,h⟩:=Option.bind_eq_some_iff.1 h
  obtain ⟨c,h3,h⟩:=Option.map_eq_some_iff.1 h
  injection h with q1 q2
  subst q1 q2
  exact Zbx (ZaC hf) (Zaj (ZcO (Zaj (Zag (ZaC hf)) h1) h2) h3)
 ·obtain ⟨c,h3,h⟩:=Option.map_eq_some_iff.1 h
  injection h with q1 q2
  subst q1 q2
  exact Zbx hf (Zaj (Zag hf) h3)
theorem ZjC {k:Int} {s:ByteArray} {e e':El} {r r':List El} (hf:fits e r) (h:Zd9 k s e r=some (e',r')):fits e' r':=by
 unfold Zd9 at h
 split at h
 ·obtain ⟨c,h3,h⟩:=Option.map_eq_some_iff.1 h
  injection h with q1 q2
  subst q1 q2
  exact Zbx hf (Zaj (Zag hf) h3)
 ·obtain ⟨⟨e1,r1⟩,h1,h⟩:=Option.bind_eq_some_iff.1 h
  have hf1:=Zfb hf h1
  rcases r1 with _ | ⟨e2,r2⟩
  ·cases h
  obtain ⟨c,h3,h⟩:=Option.map_eq_some_iff.1 h
  injection h with q1 q2
  subst q1 q2
  exact Zbx (ZaC hf1) (ZeW (Zag (ZaC hf1)) h3)
theorem Zls {c:Int} {e e':El} {r r':List El} (hf:fits e r) (h:Zt0 c e r=some (e',r')):fits e' r':=by
 obtain ⟨s,hs,h⟩:=Option.bind_eq_some_iff.1 h
 obtain ⟨a,h3,h⟩:=Option.map_eq_some_iff.1 h
 injection h with q1 q2
 subst q1 q2
 exact Zbx hf (Zaj (Zag hf) h3)
theorem ZcR:∀ {f:Nat} {c:Int} {e e':El} {r r':List El},fits e r→ZaK f c e r=some (e',r')→fits e' r'
 | 0,c,e,e',r,r',hf,h=>by cases h
 | f+1,c,e,e',r,r',hf,h=>by
   unfold ZaK at h
   split at h
   ·split at h
    ·exact Zls hf h
    ·obtain ⟨⟨e1,r1⟩,h1,h⟩:=Option.bind_eq_some_iff.1 h
     have hf1:=Zfb hf h1
     split at h
     ·split at h
      ·exact ZcR (Zbx hf1 ⟨⟨by have:=hf1.1;omega,fun q hq=>by cases hq⟩,by show 1≤9223372036854775807;omega⟩) h
      ·rcases r1 with _ | ⟨e2,r2⟩
       ·cases h
       obtain ⟨e4,h4,h⟩:=Option.bind_eq_some_iff.1 h
       exact ZcR (Zbx (ZaC hf1) (Zir (Zag (ZaC hf1)) h4)) h
     ·cases h
   ·exact Zls hf h
theorem Zhl {k t c:Int} {x:ByteArray} {e e':El} {r r':List El} (hf:fits e r) (h:ZkI k t c x e r=some (e',r')):fits e' r':=by
 unfold ZkI at h
 split at h
 ·obtain ⟨a,h3,h⟩:=Option.map_eq_some_iff.1 h
  injection h with q1 q2
  subst q1 q2
  exact Zbx hf (Zaj (Zag hf) h3)
 ·injection h with h
  injection h with q1 q2
  subst q1 q2
  refine ⟨by simp;omega,fun x hx=>?_⟩
  rcases List.mem_cons.1 hx with rfl | hx
  ·exact ⟨fun q hq=>(by cases hq),(by show 0≤_;omega)⟩
  ·exact hf.2 x hx
theorem Zpv (k t c:Int) (x:ByteArray) (e e':El) (r r':List El) (hf:fits e r) (h:ZkI k t c x e r=some (e',r')) :
  ContractG Tryz.prog 104 [.ptr 0 (0,0) 0,.ptr 1 (0,1) 0,.str x] (objs (stP νa e r)++Zod k t c) (.tup []) (stP νb e' r' ++ []):=by
 rw [List.append_nil]
 unfold ZkI at h
 split at h
 ·rename_i hr
  obtain ⟨a,h3,h⟩:=Option.map_eq_some_iff.1 h
  injection h with q1 q2
  subst q1 q2
  exact Zpx e a r k t c x hr (Zag hf).1 (Zag hf).2 h3
 ·rename_i hr
  injection h with h
  injection h with q1 q2
  subst q1 q2
  exact Zpy e r k t c x (by omega)
theorem ZjY {s:ByteArray} {t:Tok} {e e':El} {r r':List El} (hf:fits e r) (h:Zn9 s t e r=some (e',r')):fits e' r':=by
 obtain ⟨x,hx,h⟩:=Option.bind_eq_some_iff.1 h
 have one:∀ {o:Option El},(∀ a,o=some a→fit a r)→o.map (fun e'=>(e',r))=some (e',r')→fits e' r':=fun h1 h=>by
  obtain ⟨a,h3,h⟩:=Option.map_eq_some_iff.1 h
  injection h with q1 q2
  subst q1 q2
  exact Zbx hf (h1 a h3)
 split at h
 ·exact one (fun a ha=>Zaj (Zag hf) ha) h
 split at h
 ·exact one (fun a ha=>ZeW (Zag hf) ha) h
 split at h
 ·obtain ⟨y,hy,h⟩:=Option.bind_eq_some_iff.1 h
  exact one (fun a ha=>ZeW (Zag hf) ha) h
 split at h
 ·exact Zhl hf h
 split at h
 ·exact Zhl hf h
 split at h
 ·obtain ⟨y,hy,h⟩:=Option.bind_eq_some_iff.1 h
  exact Zhl hf h
 split at h
 ·exact one (fun a ha=>Zrw (Zag hf) ha) h
 split at h
 ·exact one (fun a ha=>Zoa (Zag hf) ha) h
 split at h
 ·exact ZiO hf h
 split at h
 ·obtain ⟨y,hy,h⟩:=Option.bind_eq_some_iff.1 h
  exact ZjC hf h
 split at h
 ·exact ZcR hf h
 ·injection h with h
  injection h with q1 q2
  subst q1 q2
  exact hf
set_option maxRecDepth 100000 in
set_option maxHeartbeats 2000000 in
theorem Zui (s:ByteArray) (t:Tok) (e e':El) (r r':List El) (hf:fits e r) (h:Zn9 s t e r=some (e',r')):PC 63 [.str s,t.pv] e r (.tup []) e' r':=by
 have hft:=Zag hf
 obtain ⟨x,hx,h⟩:=Option.bind_eq_some_iff.1 h
 obtain ⟨tk,tf,tt⟩:=t
 refine Zz mix Tryz.func63 (by kernel_rfl) rfl (by kernel_rfl) ?_
 rw [ZbZ]
 repeat (first | (refine Zff (ZhO _ _ _ hx) rfl rfl ?_) | refine Zn rfl (by (conv=>lhs;whnf);try rfl) ?_ | refine ZB rfl rfl rfl ?_ | refine Zj rfl rfl ?_ | refine Zp rfl (by (conv=>lhs;whnf);try rfl) ?_ | refine ZT rfl rfl rfl rfl (by (conv=>lhs;whnf);try rfl) ?_ | refine ZjD rfl (by (conv=>lhs;whnf);try rfl) (by (conv=>lhs;whnf);try rfl) (by rfl) ?_ | refine Zd ?_ | refine Zi ?_ | refine Za ?_ | refine Zai ?_)
 by_cases h1:tk=1
 ·subst h1
  rw [if_pos (show (1:Int)=1∨(1:Int)=2 by decide)] at h
  obtain ⟨a,ha,h⟩:=Option.map_eq_some_iff.1 h
  injection h with q1 q2
  subst q1 q2
  repeat (first | (refine Zr rfl rfl ?_) | (refine Zw [_] νa (ZbQ e r x hft.1 hft.2 a ha) rfl rfl rfl rfl rfl rfl ?_) | refine Zn rfl (by (conv=>lhs;whnf);try rfl) ?_ | refine Zd ?_ | refine Za ?_ | refine ZA ?_ | refine Zx ?_ | refine ZQ ?_)
  exact Zbt (.inr rfl) (νc _ _) [_] [] rfl rfl trivial rfl rfl
 by_cases h2:tk=2
 ·subst h2
  rw [if_pos (show (2:Int)=1∨(2:Int)=2 by decide)] at h
  obtain ⟨a,ha,h⟩:=Option.map_eq_some_iff.1 h
  injection h with q1 q2
  subst q1 q2
  repeat (first | (refine Zr rfl rfl ?_) | (refine Zh rfl rfl ?_) | (refine Zw [_] νa (ZbQ e r x hft.1 hft.2 a ha) rfl rfl rfl rfl rfl rfl ?_) | refine Zn rfl (by (conv=>lhs;whnf);try rfl) ?_ | refine Zp rfl (by (conv=>lhs;whnf);try rfl) ?_ | refine ZT rfl rfl rfl rfl (by (conv=>lhs;whnf);try rfl) ?_ | refine Zd ?_ | refine Za ?_ | refine Zx ?_ | refine ZQ ?_)
  exact Zbt (.inr rfl) (νc _ _) [_] [] rfl rfl trivial rfl rfl
 by_cases h9:tk=9
 ·subst h9
  rw [if_neg (show ¬ ((9:Int)=1∨(9:Int)=2) by decide)] at h
  rw [if_pos (show (9:Int)=9 by decide)] at h
  obtain ⟨a,ha,h⟩:=Option.map_eq_some_iff.1 h
  injection h with q1 q2
  subst q1 q2
  repeat (first | (refine Zr rfl rfl ?_) | (refine Zh rfl rfl ?_) | (refine Zw [_] νa (Zqr e a r 2 0 x hft.1 ha) rfl rfl rfl rfl rfl rfl ?_) | refine Zn rfl (by (conv=>lhs;whnf);try rfl) ?_ | refine Zp rfl (by (conv=>lhs;whnf);try rfl) ?_ | refine ZT rfl rfl rfl rfl (by (conv=>lhs;whnf);try rfl) ?_ | refine Zbr rfl rfl ?_ | refine Zd ?_ | refine Zi ?_ | refine Za ?_ | refine Zx ?_ | refine ZQ ?_)
  exact Zbt (.inr rfl) (νc _ _) [_] [] rfl rfl trivial rfl rfl
 by_cases h10:tk=10
 ·subst h10
  rw [if_neg (show ¬ ((10:Int)=1∨(10:Int)=2) by decide)] at h
  rw [if_neg (show ¬ (10:Int)=9 by decide)] at h
  rw [if_pos (show (10:Int)=10 by decide)] at h
  obtain ⟨y,hy,h⟩:=Option.bind_eq_some_iff.1 h
  obtain ⟨a,ha,h⟩:=Option.map_eq_some_iff.1 h
  injection h with q1 q2
  subst q1 q2
  repeat (first | (refine Zr rfl rfl ?_) | (refine Zh rfl rfl ?_) | (refine Zlh StrT.eq rfl hy rfl rfl rfl ?_) | (refine Zw [_] νa (Zqr e a r 3 0 y hft.1 ha) rfl rfl rfl rfl rfl rfl ?_) | refine Zn rfl (by (conv=>lhs;whnf);try rfl) ?_ | refine Zp rfl (by (conv=>lhs;whnf);try rfl) ?_ | refine ZT rfl rfl rfl rfl (by (conv=>lhs;whnf);try rfl) ?_ | refine Zfq Tryz.underlying9 rfl rfl ?_ | refine Zbr rfl rfl ?_ | refine Zd ?_ | refine Zi ?_ | refine Za ?_ | refine Zx ?_ | refine ZQ ?_)
  exact Zbt (.inr rfl) (νc _ _) [_] [] rfl rfl trivial rfl rfl
 by_cases h3:tk=3
 ·subst h3
  rw [if_neg (show ¬ ((3:Int)=1∨(3:Int)=2) by decide)] at h
  rw [if_neg (show ¬ (3:Int)=9 by decide)] at h
  rw [if_neg (show ¬ (3:Int)=10 by decide)] at h
  rw [if_pos (show (3:Int)=3 by decide)] at h
  repeat (first | (refine Zr rfl rfl ?_) | (refine Zh rfl rfl ?_) | refine Zn rfl (by (conv=>lhs;whnf);try rfl) ?_ | refine Zp rfl (by (conv=>lhs;whnf);try rfl) ?_ | refine ZT rfl rfl rfl rfl (by (conv=>lhs;whnf);try rfl) ?_ | refine Zfq Tryz.underlying9 rfl rfl ?_ | refine ZjD rfl (by (conv=>lhs;whnf);try rfl) (by (conv=>lhs;whnf);try rfl) (by rfl) ?_ | refine Zbr rfl rfl ?_ | refine Zd ?_ | refine Zi ?_ | refine Za ?_)
  refine ZkK (xin:=Zod _ _ _) (ext:=[]) (ext2:=[]) [_,_] νa (fun _=>40) (fun _=>(9,4)) (Zpv 3 0 x.size x e e' r r' hf h) rfl rfl rfl rfl (List.mem_cons_self ..) ⟨⟨_,rfl,rfl⟩,trivial⟩ (fun _ _=>⟨_,List.mem_cons_of_mem _ (List.mem_cons_self ..)⟩) rfl rfl rfl rfl ?_
  repeat (first | refine Zd ?_ | refine Zx ?_ | refine ZQ ?_)
  exact Zbt (.inr rfl) (νc _ _) [_,_,_] [] rfl rfl trivial rfl rfl
 by_cases h5:tk=5
 ·subst h5
  rw [if_neg (show ¬ ((5:Int)=1∨(5:Int)=2) by decide)] at h
  rw [if_neg (show ¬ (5:Int)=9 by decide)] at h
  rw [if_neg (show ¬ (5:Int)=10 by decide)] at h
  rw [if_neg (show ¬ (5:Int)=3 by decide)] at h
  rw [if_pos (show (5:Int)=5 by decide)] at h
  repeat (first | (refine Zr rfl rfl ?_) | (refine Zh rfl rfl ?_) | refine Zn rfl (by (conv=>lhs;whnf);try rfl) ?_ | refine Zp rfl (by (conv=>lhs;whnf);try rfl) ?_ | refine ZT rfl rfl rfl rfl (by (conv=>lhs;whnf);try rfl) ?_ | refine ZjD rfl (by (conv=>lhs;whnf);try rfl) (by (conv=>lhs;whnf);try rfl) (by rfl) ?_ | refine Zbr rfl rfl ?_ | refine Zd ?_ | refine Zi ?_ | refine Za ?_)
  refine ZkK (xin:=Zod _ _ _) (ext:=[]) (ext2:=[]) [_,_] νa (fun _=>47) (fun _=>(10,2)) (Zpv 1 0 0 x e e' r r' hf h) rfl rfl rfl rfl (List.mem_cons_self ..) ⟨⟨_,rfl,rfl⟩,trivial⟩ (fun _ _=>⟨_,List.mem_cons_of_mem _ (List.mem_cons_self ..)⟩) rfl rfl rfl rfl ?_
  repeat (first | refine Zd ?_ | refine Zx ?_ | refine ZQ ?_)
  exact Zbt (.inr rfl) (νc _ _) [_,_,_] [] rfl rfl trivial rfl rfl
 by_cases h11:tk=11
 ·subst h11
  rw [if_neg (show ¬ ((11:Int)=1∨(11:Int)=2) by decide)] at h
  rw [if_neg (show ¬ (11:Int)=9 by decide)] at h
  rw [if_neg (show ¬ (11:Int)=10 by decide)] at h
  rw [if_neg (show ¬ (11:Int)=3 by decide)] at h
  rw [if_neg (show ¬ (11:Int)=5 by decide)] at h
  rw [if_pos (show (11:Int)=11 by decide)] at h
  obtain ⟨k,hk,h⟩:=Option.bind_eq_some_iff.1 h
  repeat (first | (refine Zr rfl rfl ?_) | (refine Zh rfl rfl ?_) | (refine Zff (ZiH _ _ _ hk) rfl rfl ?_) | refine Zn rfl (by (conv=>lhs;whnf);try rfl) ?_ | refine ZB rfl rfl rfl ?_ | refine Zp rfl (by (conv=>lhs;whnf);try rfl) ?_ | refine ZT rfl rfl rfl rfl (by (conv=>lhs;whnf);try rfl) ?_ | refine ZjD rfl (by (conv=>lhs;whnf);try rfl) (by (conv=>lhs;whnf);try rfl) (by rfl) ?_ | refine Zbr rfl rfl ?_ | refine Zd ?_ | refine Zi ?_ | refine Za ?_)
  refine ZkK (xin:=Zod _ _ _) (ext:=[]) (ext2:=[]) [_,_] νa (fun _=>57) (fun _=>(11,5)) (Zpv 2 k 0 x e e' r r' hf h) rfl rfl rfl rfl (List.mem_cons_self ..) ⟨⟨_,rfl,rfl⟩,trivial⟩ (fun _ _=>⟨_,List.mem_cons_of_mem _ (List.mem_cons_self ..)⟩) rfl rfl rfl rfl ?_
  repeat (first | refine Zd ?_ | refine Zx ?_ | refine ZQ ?_)
  exact Zbt (.inr rfl) (νc _ _) [_,_,_] [] rfl rfl trivial rfl rfl
 by_cases h7:tk=7
 ·subst h7
  rw [if_neg (show ¬ ((7:Int)=1∨(7:Int)=2) by decide)] at h
  rw [if_neg (show ¬ (7:Int)=9 by decide)] at h
  rw [if_neg (show ¬ (7:Int)=10 by decide)] at h
  rw [if_neg (show ¬ (7:Int)=3 by decide)] at h
  rw [if_neg (show ¬ (7:Int)=5 by decide)] at h
  rw [if_neg (show ¬ (7:Int)=11 by decide)] at h
  rw [if_pos (show (7:Int)=7 by decide)] at h
  obtain ⟨a,ha,h⟩:=Option.map_eq_some_iff.1 h
  injection h with q1 q2
  subst q1 q2
  repeat (first | (refine Zr rfl rfl ?_) | (refine Zh rfl rfl ?_) | (refine Zw [_] νa (Zvb e a r hft ha) rfl rfl rfl rfl rfl rfl ?_) | refine Zn rfl (by (conv=>lhs;whnf);try rfl) ?_ | refine Zp rfl (by (conv=>lhs;whnf);try rfl) ?_ | refine ZT rfl rfl rfl rfl (by (conv=>lhs;whnf);try rfl) ?_ | refine Zd ?_ | refine Zi ?_ | refine Za ?_ | refine Zx ?_ | refine ZQ ?_)
  exact Zbt (.inr rfl) (νc _ _) [_] [] rfl rfl trivial rfl rfl
 by_cases h8:tk=8
 ·subst h8
  rw [if_neg (show ¬ ((8:Int)=1∨(8:Int)=2) by decide)] at h
  rw [if_neg (show ¬ (8:Int)=9 by decide)] at h
  rw [if_neg (show ¬ (8:Int)=10 by decide)] at h
  rw [if_neg (show ¬ (8:Int)=3 by decide)] at h
  rw [if_neg (show ¬ (8:Int)=5 by decide)] at h
  rw [if_neg (show ¬ (8:Int)=11 by decide)] at h
  rw [if_neg (show ¬ (8:Int)=7 by decide)] at h
  rw [if_pos (show (8:Int)=8 by decide)] at h
  obtain ⟨a,ha,h⟩:=Option.map_eq_some_iff.1 h
  injection h with q1 q2
  subst q1 q2
  repeat (first | (refine Zr rfl rfl ?_) | (refine Zh rfl rfl ?_) | (refine Zw [_] νa (Zs8 e a r hft ha) rfl rfl rfl rfl rfl rfl ?_) | refine Zn rfl (by (conv=>lhs;whnf);try rfl) ?_ | refine Zp rfl (by (conv=>lhs;whnf);try rfl) ?_ | refine ZT rfl rfl rfl rfl (by (conv=>lhs;whnf);try rfl) ?_ | refine Zd ?_ | refine Zi ?_ | refine Za ?_ | refine Zx ?_ | refine ZQ ?_)
  exact Zbt (.inr rfl) (νc _ _) [_] [] rfl rfl trivial rfl rfl
 by_cases h6:tk=6
 ·subst h6
  rw [if_neg (show ¬ ((6:Int)=1∨(6:Int)=2) by decide)] at h
  rw [if_neg (show ¬ (6:Int)=9 by decide)] at h
  rw [if_neg (show ¬ (6:Int)=10 by decide)] at h
  rw [if_neg (show ¬ (6:Int)=3 by decide)] at h
  rw [if_neg (show ¬ (6:Int)=5 by decide)] at h
  rw [if_neg (show ¬ (6:Int)=11 by decide)] at h
  rw [if_neg (show ¬ (6:Int)=7 by decide)] at h
  rw [if_neg (show ¬ (6:Int)=8 by decide)] at h
  rw [if_pos (show (6:Int)=6 by decide)] at h
  repeat (first | (refine Zr rfl rfl ?_) | (refine Zh rfl rfl ?_) | (refine Zw [_] νa (ZmH e e' r r' hf h) rfl rfl rfl rfl rfl rfl ?_) | refine Zn rfl (by (conv=>lhs;whnf);try rfl) ?_ | refine Zp rfl (by (conv=>lhs;whnf);try rfl) ?_ | refine ZT rfl rfl rfl rfl (by (conv=>lhs;whnf);try rfl) ?_ | refine Zd ?_ | refine Zi ?_ | refine Za ?_ | refine Zx ?_ | refine ZQ ?_)
  exact Zbt (.inr rfl) (νc _ _) [_] [] rfl rfl trivial rfl rfl
 by_cases h12:tk=12
 ·subst h12
  rw [if_neg (show ¬ ((12:Int)=1∨(12:Int)=2) by decide)] at h
  rw [if_neg (show ¬ (12:Int)=9 by decide)] at h
  rw [if_neg (show ¬ (12:Int)=10 by decide)] at h
  rw [if_neg (show ¬ (12:Int)=3 by decide)] at h
  rw [if_neg (show ¬ (12:Int)=5 by decide)] at h
  rw [if_neg (show ¬ (12:Int)=11 by decide)] at h
  rw [if_neg (show ¬ (12:Int)=7 by decide)] at h
  rw [if_neg (show ¬ (12:Int)=8 by decide)] at h
  rw [if_neg (show ¬ (12:Int)=6 by decide)] at h
  rw [if_pos (show (12:Int)=12 by decide)] at h
  obtain ⟨k,hk,h⟩:=Option.bind_eq_some_iff.1 h
  repeat (first | (refine Zr rfl rfl ?_) | (refine Zh rfl rfl ?_) | (refine Zff (ZiH _ _ _ hk) rfl rfl ?_) | (refine Zw [_] νa (Zox k x e e' r r' hf h) rfl rfl rfl rfl rfl rfl ?_) | refine Zn rfl (by (conv=>lhs;whnf);try rfl) ?_ | refine ZB rfl rfl rfl ?_ | refine Zp rfl (by (conv=>lhs;whnf);try rfl) ?_ | refine ZT rfl rfl rfl rfl (by (conv=>lhs;whnf);try rfl) ?_ | refine Zd ?_ | refine Zi ?_ | refine Za ?_ | refine Zx ?_ | refine ZQ ?_)
  exact Zbt (.inr rfl) (νc _ _) [_] [] rfl rfl trivial rfl rfl
 by_cases h4:tk=4
 ·subst h4
  rw [if_neg (show ¬ ((4:Int)=1∨(4:Int)=2) by decide)] at h
  rw [if_neg (show ¬ (4:Int)=9 by decide)] at h
  rw [if_neg (show ¬ (4:Int)=10 by decide)] at h
  rw [if_neg (show ¬ (4:Int)=3 by decide)] at h
  rw [if_neg (show ¬ (4:Int)=5 by decide)] at h
  rw [if_neg (show ¬ (4:Int)=11 by decide)] at h
  rw [if_neg (show ¬ (4:Int)=7 by decide)] at h
  rw [if_neg (show ¬ (4:Int)=8 by decide)] at h
  rw [if_neg (show ¬ (4:Int)=6 by decide)] at h
  rw [if_neg (show ¬ (4:Int)=12 by decide)] at h
  rw [if_pos (show (4:Int)=4 by decide)] at h
  repeat (first | (refine Zr rfl rfl ?_) | (refine Zh rfl rfl ?_) | (refine Zw [_] νa (Zlc _ x.size e e' r r' hf h) rfl rfl rfl rfl rfl rfl ?_) | refine Zn rfl (by (conv=>lhs;whnf);try rfl) ?_ | refine Zp rfl (by (conv=>lhs;whnf);try rfl) ?_ | refine ZT rfl rfl rfl rfl (by (conv=>lhs;whnf);try rfl) ?_ | refine Zfq Tryz.underlying9 rfl rfl ?_ | refine Zd ?_ | refine Zi ?_ | refine Za ?_ | refine Zx ?_ | refine ZQ ?_)
  exact Zbt (.inr rfl) (νc _ _) [_] [] rfl rfl trivial rfl rfl
 rw [if_neg (fun q:tk=1∨tk=2=>q.elim h1 h2)] at h
 rw [if_neg h9] at h
 rw [if_neg h10] at h
 rw [if_neg h3] at h
 rw [if_neg h5] at h
 rw [if_neg h11] at h
 rw [if_neg h7] at h
 rw [if_neg h8] at h
 rw [if_neg h6] at h
 rw [if_neg h12] at h
 rw [if_neg h4] at h
 injection h with h
 injection h with q1 q2
 subst q1 q2
 rw [decide_eq_false h1]
 repeat (first | (refine Zh rfl rfl ?_) | refine Zp rfl (by (conv=>lhs;whnf);try rfl) ?_ | refine ZT rfl rfl rfl rfl (by (conv=>lhs;whnf);try rfl) ?_ | refine Zd ?_ | refine Za ?_)
 rw [decide_eq_false h2]
 repeat (first | (refine Zh rfl rfl ?_) | refine Zp rfl (by (conv=>lhs;whnf);try rfl) ?_ | refine ZT rfl rfl rfl rfl (by (conv=>lhs;whnf);try rfl) ?_ | refine Zd ?_ | refine Zi ?_ | refine Za ?_)
 rw [decide_eq_false h9]
 repeat (first | (refine Zh rfl rfl ?_) | refine Zp rfl (by (conv=>lhs;whnf);try rfl) ?_ | refine ZT rfl rfl rfl rfl (by (conv=>lhs;whnf);try rfl) ?_ | refine Zd ?_ | refine Zi ?_ | refine Za ?_)
 rw [decide_eq_false h10]
 repeat (first | (refine Zh rfl rfl ?_) | refine Zp rfl (by (conv=>lhs;whnf);try rfl) ?_ | refine ZT rfl rfl rfl rfl (by (conv=>lhs;whnf);try rfl) ?_ | refine Zd ?_ | refine Zi ?_ | refine Za ?_)
 rw [decide_eq_false h3]
 repeat (first | (refine Zh rfl rfl ?_) | refine Zp rfl (by (conv=>lhs;whnf);try rfl) ?_ | refine ZT rfl rfl rfl rfl (by (conv=>lhs;whnf);try rfl) ?_ | refine Zd ?_ | refine Zi ?_ | refine Za ?_)
 rw [decide_eq_false h5]
 repeat (first | (refine Zh rfl rfl ?_) | refine Zp rfl (by (conv=>lhs;whnf);try rfl) ?_ | refine ZT rfl rfl rfl rfl (by (conv=>lhs;whnf);try rfl) ?_ | refine Zd ?_ | refine Zi ?_ | refine Za ?_)
 rw [decide_eq_false h11]
 repeat (first | (refine Zh rfl rfl ?_) | refine Zp rfl (by (conv=>lhs;whnf);try rfl) ?_ | refine ZT rfl rfl rfl rfl (by (conv=>lhs;whnf);try rfl) ?_ | refine Zd ?_ | refine Zi ?_ | refine Za ?_)
 rw [decide_eq_false h7]
 repeat (first | (refine Zh rfl rfl ?_) | refine Zp rfl (by (conv=>lhs;whnf);try rfl) ?_ | refine ZT rfl rfl rfl rfl (by (conv=>lhs;whnf);try rfl) ?_ | refine Zd ?_ | refine Zi ?_ | refine Za ?_)
 rw [decide_eq_false h8]
 repeat (first | (refine Zh rfl rfl ?_) | refine Zp rfl (by (conv=>lhs;whnf);try rfl) ?_ | refine ZT rfl rfl rfl rfl (by (conv=>lhs;whnf);try rfl) ?_ | refine Zd ?_ | refine Zi ?_ | refine Za ?_)
 rw [decide_eq_false h6]
 repeat (first | (refine Zh rfl rfl ?_) | refine Zp rfl (by (conv=>lhs;whnf);try rfl) ?_ | refine ZT rfl rfl rfl rfl (by (conv=>lhs;whnf);try rfl) ?_ | refine Zd ?_ | refine Zi ?_ | refine Za ?_)
 rw [decide_eq_false h12]
 repeat (first | (refine Zh rfl rfl ?_) | refine Zp rfl (by (conv=>lhs;whnf);try rfl) ?_ | refine ZT rfl rfl rfl rfl (by (conv=>lhs;whnf);try rfl) ?_ | refine Zd ?_ | refine Zi ?_ | refine Za ?_)
 rw [decide_eq_false h4]
 repeat (first | (refine Zh rfl rfl ?_) | refine ZA ?_ | refine Zx ?_ | refine ZQ ?_)
 exact Zbt (.inr rfl) νa [_] [] rfl rfl trivial rfl rfl
def νp (k:Nat):Gen:=(1,k)
theorem ZmD (ν:Nat→Gen) {e:El} {r:List El} (lits:List (Nat×Option (Gen×VObj))) {tm tm':List (Nat×PV)} {ob:List (Nat×Option (Gen×VObj))} {ng:Nat} (h1:Zfz (σf fun k=>(k,ν k)) tm tm') (hob:ob=lits++somes (stP ν e r)) (hl:(lits.all fun q=>!Zbi q.1)=true) :
  Shift (mkS tm ob ng) (mkS tm' (somes (stP νp e r)) 2):=
 Ze5 _ h1 (Zkk (ν:=νp) (ν':=ν) (fun _ _=>rfl) e r) (by rw [hob];exact Za8 hl) (ZaP _ _ _)
def ZiK (s:ByteArray):List Tok→El→List El→Option (El×List El)
 | [],e,r=>some (e,r)
 | t::l,e,r=>(Zn9 s t e r).bind fun q=>ZiK s l q.1 q.2
theorem ZiL {s:ByteArray}:∀ {l:List Tok} {e e':El} {r r':List El},fits e r→ZiK s l e r=some (e',r')→fits e' r'
 | [],e,e',r,r',hf,h=>by injection h with h;injection h with h1 h2;rw [← h1,← h2];exact hf
 | t::l,e,e',r,r',hf,h=>by
   obtain ⟨⟨e1,r1⟩,h1,h⟩:=Option.bind_eq_some_iff.1 h
   exact ZiL (ZjY hf h1) h
def Zpo (s:ByteArray):Option (List (List PV)×Int):=(ZeB s).bind fun q=>if q.2=0 then (if q.1.length≤4611686018427387904 then (ZiK s q.1 ⟨0,0,0,[],none⟩ []).bind fun p=>(Zfi p.2.length p.1 p.2).map fun z=>(z.1.list,0) else none) else some ([],q.2)
abbrev startf (k:Nat):Nat×Gen:=if k=0 then (21,(4,4)) else if k=1000 then (19,(4,2)) else if k=1001 then (18,(4,1)) else if k=1002 then (60,(6,0)) else (61,(7,0))
set_option maxRecDepth 100000 in
set_option maxHeartbeats 2000000 in
theorem Zrs (s:ByteArray) (res:List (List PV)×Int) (h:Zpo s=some res):Zo Tryz.prog 29 [.str s] (.tup [.sl res.1,.int .i64 res.2]):=by
 obtain ⟨⟨l,e0⟩,hq,h⟩:=Option.bind_eq_some_iff.1 h
 refine ZbC mix Tryz.func29 (by kernel_rfl) rfl (by kernel_rfl) ?_
 repeat (first | (refine Zff (Zlo _ _ hq) rfl rfl ?_) | refine Zn rfl (by (conv=>lhs;whnf);try rfl) ?_ | refine Zp rfl (by (conv=>lhs;whnf);try rfl) ?_ | refine ZT rfl rfl rfl rfl (by (conv=>lhs;whnf);try rfl) ?_ | refine ZeI rfl rfl rfl ?_ | refine Zd ?_ | refine Zi ?_ | refine Za ?_)
 dsimp only at h
 by_cases he:e0=0
 rotate_left
 ·rw [if_neg he] at h
  injection h with h
  subst h
  rw [decide_eq_false he]
  repeat (first | (refine Zr rfl rfl ?_) | refine Zn rfl (by (conv=>lhs;whnf);try rfl) ?_ | refine Zp rfl (by (conv=>lhs;whnf);try rfl) ?_ | refine Zd ?_ | refine Zi ?_ | refine Za ?_ | refine Zba ?_)
  exact Zej rfl rfl rfl
 rw [if_pos he] at h
 by_cases hl:l.length≤4611686018427387904
 rotate_left
 ·rw [if_neg hl] at h
  cases h
 rw [if_pos hl] at h
 obtain ⟨⟨e1,r1⟩,hp,h⟩:=Option.bind_eq_some_iff.1 h
 obtain ⟨⟨e2,r2⟩,hz,h⟩:=Option.map_eq_some_iff.1 h
 subst h
 rw [decide_eq_true he]
 have hf0:fits ⟨0,0,0,[],none⟩ []:=⟨Nat.zero_le _,fun x hx=>by
  rw [List.mem_singleton.1 hx]
  exact ⟨fun q hq=>(by cases hq),Nat.zero_le _⟩⟩
 have hf1:=ZiL hf0 hp
 repeat (first | (refine Zh rfl rfl ?_) | (refine Zio rfl rfl rfl rfl (Nat.le_of_ble_eq_true rfl) rfl ?_) | refine Zn rfl (by (conv=>lhs;whnf);try rfl) ?_ | refine Zp rfl (by (conv=>lhs;whnf);try rfl) ?_ | refine ZgR rfl rfl ?_ | refine ZjD rfl (by (conv=>lhs;whnf);try rfl) (by (conv=>lhs;whnf);try rfl) (by rfl) ?_ | refine Zbr rfl rfl ?_ | refine Zd ?_ | refine Zi ?_ | refine Za ?_ | refine Zai ?_ | refine ZA ?_)
 refine ZH (fun (a:Nat×El×List El) _=>mkS [(0,.str s),(6,.ptr 0 (1,0) 0),(22,.sl (l.map Tok.cs)),(23,.int .i64 ((l.map Tok.cs).length:Int)),(24,.int .i64 ((a.1:Nat):Int))] (somes (stP νp a.2.1 a.2.2)) 2) (fun a=>a.1≤l.length∧fits a.2.1 a.2.2∧ZiK s (l.drop a.1) a.2.1 a.2.2=some (e1,r1)) (fun a=>l.length - a.1) (0,⟨0,0,0,[],none⟩,[]) 2 ⟨Nat.zero_le _,hf0,hp⟩
  (Shift.trans (Zch 18 60 3 78 5 rfl rfl rfl) (Shift.trans (Zch 18 61 4 111 3 rfl rfl rfl) (Shift.trans (Zcn (t:=61) rfl) (Ze5 startf ⟨rfl,rfl,rfl,rfl,rfl,trivial⟩ rfl (Zk rfl (Zk rfl (Zk rfl (Zk rfl (Zk rfl (ZP _)))))) (by decide))))) (fun a ng hJ=>?_)
 obtain ⟨q,e3,r3⟩:=a
 obtain ⟨hqq,hf3,ht⟩:=hJ
 dsimp only at hqq hf3 ht ⊢
 repeat (first | refine ZT rfl rfl rfl rfl (by (conv=>lhs;whnf);try rfl) ?_ | refine Zd ?_ | refine Zi ?_ | refine Za ?_)
 by_cases hlt:q<l.length
 ·refine Zr (by (conv=>lhs;whnf);try rfl) (by simp;omega) ?_
  rw [List.drop_eq_getElem_cons hlt] at ht
  obtain ⟨⟨e4,r4⟩,h4,ht⟩:=Option.bind_eq_some_iff.1 ht
  have hcs:(l.map Tok.cs)[q]? = some (Tok.cs l[q]):=by rw [List.getElem?_map,List.getElem?_eq_getElem hlt];rfl
  repeat (first | (refine ZdI rfl rfl rfl hcs rfl ?_) | (refine Zw [_,_] νp (Zui s _ e3 e4 r3 r4 hf3 h4) rfl rfl rfl rfl rfl rfl ?_) | refine Zn rfl (by (conv=>lhs;whnf);try rfl) ?_ | refine ZB rfl rfl rfl ?_ | refine ZmQ rfl rfl (by omega) ?_ | refine ZcV rfl rfl ?_ | refine ZaH rfl rfl rfl (by (conv=>lhs;whnf);try rfl) (by (conv=>lhs;whnf);try rfl) (by rfl) (by rfl) (Nat.le_of_ble_eq_true rfl) (by (conv=>lhs;whnf);try rfl) ?_ | refine Zd ?_ | refine Zi ?_ | refine Za ?_ | refine Zai ?_ | refine ZA ?_ | refine Zx ?_)
  exact Zaf (q+1,e4,r4) 2 ⟨by dsimp only;omega,ZjY hf3 h4,ht⟩ (by dsimp only;omega) (ZmD (νn (1,0) 4 3) [_,_] ⟨rfl,rfl,rfl,rfl,rfl,trivial⟩ rfl rfl)
 ·refine Zh (by (conv=>lhs;whnf);try rfl) (by simp;omega) ?_
  obtain rfl:q=l.length:=by omega
  rw [List.drop_length] at ht
  injection ht with ht
  injection ht with q1 q2
  subst q1 q2
  repeat (first | refine Zi ?_ | refine Zai ?_ | refine Za1 ?_)
  refine ZH (fun (a:El×List El) _=>mkS [(6,.ptr 0 (1,0) 0)] (somes (stP νp a.1 a.2)) 2) (fun a=>fits a.1 a.2∧Zfi a.2.length a.1 a.2=some (e2,r2)) (fun a=>a.2.length) (e3,r3) 2 ⟨hf3,hz⟩ (ZmD νp [] ⟨rfl,trivial⟩ rfl rfl) (fun a ng hJ=>?_)
  obtain ⟨e5,r5⟩:=a
  obtain ⟨hf5,hft⟩:=hJ
  dsimp only at hf5 hft ⊢
  have hr5:=hf5.1
  repeat (first | (refine Za6 rfl rfl (ZbW _ _ _) ?_) | refine Zn rfl (by (conv=>lhs;whnf);try rfl) ?_ | refine ZB rfl rfl rfl ?_ | refine Zj rfl rfl ?_ | refine ZT rfl rfl rfl rfl (by (conv=>lhs;whnf);try rfl) ?_ | refine ZaA rfl rfl ?_ | refine Zd ?_ | refine Zi ?_ | refine Za ?_)
  rcases r5 with _ | ⟨e6,r6⟩
  ·injection hft with hft
   injection hft with q1 q2
   subst q1 q2
   repeat (first | (refine Zh rfl rfl ?_) | (refine Zac [] νp (Zdo e5 [] (Nat.zero_le _)) rfl rfl rfl rfl rfl rfl ?_) | refine Zn rfl (by (conv=>lhs;whnf);try rfl) ?_ | refine ZB rfl rfl rfl ?_ | refine Zj rfl rfl ?_ | refine Zp rfl (by (conv=>lhs;whnf);try rfl) ?_ | refine ZaA rfl rfl ?_ | refine Zd ?_ | refine Zi ?_ | refine Za ?_ | refine Zba ?_ | refine Za1 ?_)
   exact Zej rfl rfl rfl
  ·rw [show decide ((1:Int)<(((e6::r6).length+1:Nat):Int))=true from decide_eq_true (by simp;omega)]
   obtain ⟨e7,he7,hft⟩:=Option.bind_eq_some_iff.1 hft
   repeat (first | (refine Zr rfl rfl ?_) | (refine Zw [] νp (ZiG e5 e6 e7 r6 (by simp at hr5;omega) (Zag (ZaC hf5)) he7) rfl rfl rfl rfl rfl rfl ?_) | refine Zn rfl (by (conv=>lhs;whnf);try rfl) ?_ | refine Zd ?_ | refine Za ?_ | refine Zai ?_ | refine ZA ?_ | refine Zx ?_ | refine ZQ ?_)
   exact Zaf (e7,r6) 2 ⟨ZdA hf5 he7,hft⟩ (by dsimp only;simp) (ZmD (νn (1,0) 3 1) [] ⟨rfl,trivial⟩ rfl rfl)
def ZdW (s:ByteArray):Option (List Node×Int):=(Zpo s).bind fun q=>(Zbh q.1).map fun l=>(l,q.2)
theorem ZkH (s:ByteArray) (r:List Node×Int) (h:ZdW s=some r):Zo Tryz.prog 29 [.str s] (.tup [.sl (List.map Node.cs r.1),.int .i64 r.2]):=by
 obtain ⟨q,hq,h⟩:=Option.bind_eq_some_iff.1 h
 obtain ⟨l,hl,h⟩:=Option.map_eq_some_iff.1 h
 subst h
 have:=Zrs s q hq
 rw [ZdL hl] at this
 exact this
end Go.Proofs.YtmgfammllddkhaaGreatDoor
namespace Go.Proofs.YtmgfammllddkhaaGreatDoor
open VL Go.RowKit
theorem ZsJ (B b:Nat) (bs:List Value) (s:ByteArray) (w:World) (h:Lib.IsBuilderF 186 5 B b bs w) (hlen:bs.length+s.size≤140737488355328) (hBw:B≤w.heap.size) :
  Calls Tryz.prog 174 #[.pointer (some ⟨b,0,none⟩),.string s] w fun e w'=>e = .returned (.tuple #[.int .i64 s.size,.nilIface])∧(Lib.BuilderAtF 186 5 B b (.pointer (some ⟨b,0,none⟩)) (bs++Lib.strCells s) w'∧Below B w w'):=
 Any.Builder_WriteString_f (P:=Tryz.prog) (ρ:=Tryz.lays105_ren) { Tryz.lays105 with } Tryz.Builder_Extra_105 B b bs s w h hlen hBw
structure SlW where
 a:Option Addr
 n:Nat
 c:Nat
structure NodeW where
 kind:Int
 tag:Int
 text:ByteArray
 kids:SlW
 args:SlW
instance:Enc NodeW where
 k:=5
 R _ _ x cs:=cs = [.int .i64 x.kind,.int .i64 x.tag,.string x.text,.slice x.kids.a x.kids.n x.kids.c,.slice x.args.a x.args.n x.args.c]
 len h:=by rw [h];rfl
 one h:=by
  obtain rfl:=h
  intro u hu
  simp only [List.mem_cons,List.not_mem_nil,or_false] at hu
  rcases hu with rfl | rfl | rfl | rfl | rfl<;>rfl
 keep _ _ h:=h
 weak _ h:=h
def Zfg (acc:List UInt8):List NodeW→Option (Option (List UInt8))
 | []=>some (some acc)
 | x::xs=>if x.kind=1∨x.kind=3 then (if acc.length+x.text.size≤140737488355328 then Zfg (acc++x.text.data.toList) xs else none) else if x.kind=2 then Zfg acc xs else some none
def ZnB:Option (List UInt8)→Value
 | some l=>.tuple #[.string ⟨l.toArray⟩,.bool true]
 | none=>.tuple #[.string ⟨#[]⟩,.bool false]
set_option maxRecDepth 100000 in
set_option maxHeartbeats 4000000 in
theorem Zp2 (A:Option Addr) (n c:Nat) (xs:List NodeW) (r:Option (List UInt8)) (hr:Zfg [] xs=some r) (w:World) (hS:SlR w A n c xs) :
  Calls Tryz.prog 117 #[.slice A n c] w fun e w'=>e = .returned (ZnB r)∧Below w.heap.size w w':=by
 have HN:=Lib.hid hS.1
 have hle:=hS.le
 go_enter Tryz.func117,Tryz.ntmps117
 go_wp2
 go_loopw [9] (fun i wr=>∃ (q:Nat) (acc:List UInt8),q≤n∧i = .int .i64 q∧Below w.heap.size w wr∧Lib.IsBuilderF 186 5 w.heap.size w.heap.size (Lib.byteCells acc) wr∧Hid (Zfg acc (xs.drop q)=some r)) (fun i _=>n - (intOf i).toNat)
 case atStart=>
  exact ⟨0,[],Nat.zero_le _,rfl,(Below.refl _ w).alloc (Nat.le_refl _) _,Lib.IsBuilderF.of (Lib.fresh_isBuilder 186 5 w),hr⟩
 case round=>
  obtain ⟨q,acc,hq,rfl,hbw,hI,hF⟩:=hrel
  have HW:=Lib.hid hbw
  clear hbw
  by_cases hlt:q<n
  ·obtain ⟨b,off,x,cs,hA,hbl,hx,hd,hR,hc⟩:=(SlR.mono HW.out hS).elem hlt
   obtain rfl:=hA
   have d0:wr.cell? ⟨b,off+q * 5,none⟩=some (.int .i64 x.kind):=by subst hR;exact hc 0 _ rfl
   have d1:wr.cell? ⟨b,off+q * 5+1,none⟩=some (.int .i64 x.tag):=by subst hR;exact hc 1 _ rfl
   have d2:wr.cell? ⟨b,off+q * 5+2,none⟩=some (.string x.text):=by subst hR;exact hc 2 _ rfl
   have d3:wr.cell? ⟨b,off+q * 5+3,none⟩=some (.slice x.kids.a x.kids.n x.kids.c):=by subst hR;exact hc 3 _ rfl
   have d4:wr.cell? ⟨b,off+q * 5+4,none⟩=some (.slice x.args.a x.args.n x.args.c):=by subst hR;exact hc 4 _ rfl
   have HD:=Lib.hid hd
   have HX:=Lib.hid hx
   clear hx hd hR hc
   by_cases h13:x.kind=1∨x.kind=3
   ·have hfit:acc.length+x.text.size≤140737488355328∧Zfg (acc++x.text.data.toList) (xs.drop (q+1))=some r:=by
     have e:=hF.out
     rw [HD.out] at e
     simp only [Zfg,if_pos h13] at e
     split at e
     ·exact ⟨‹_›,e⟩
     ·cases e
    have HI2:∀ o,Lib.IsBuilderF 186 5 w.heap.size w.heap.size (Lib.byteCells acc) (wr.alloc o):=fun o=>hI.alloc o
    rcases h13 with h13 | h13
    ·go_wp2_with (go_at_call 174;refine (ZsJ w.heap.size w.heap.size _ x.text _ (HI2 _) (by rw [Lib.byteCells_length];exact hfit.1) (Nat.le_trans HW.out.size (by simp))).mono ?_)
     rintro e W1 ⟨rfl,h1,b1⟩
     go_wp2
     go_roundw
     case rel=>
      refine ⟨q+1,acc++x.text.data.toList,by omega,by go_num,?_,?_,Lib.hid hfit.2⟩
      ·exact (Below.al HW.out _).trans b1
      ·rw [Lib.byteCells_append,← Lib.strCells_eq];exact Or.inr h1
     case measure=>simp [intOf];omega
    ·go_wp2_with (go_at_call 174;refine (ZsJ w.heap.size w.heap.size _ x.text _ (HI2 _) (by rw [Lib.byteCells_length];exact hfit.1) (Nat.le_trans HW.out.size (by simp))).mono ?_)
     rintro e W1 ⟨rfl,h1,b1⟩
     go_wp2
     go_roundw
     case rel=>
      refine ⟨q+1,acc++x.text.data.toList,by omega,by go_num,?_,?_,Lib.hid hfit.2⟩
      ·exact (Below.al HW.out _).trans b1
      ·rw [Lib.byteCells_append,← Lib.strCells_eq];exact Or.inr h1
     case measure=>simp [intOf];omega
   ·by_cases h2:x.kind=2
    ·have hn2:Zfg acc (xs.drop (q+1))=some r:=by
      have e:=hF.out
      rw [HD.out] at e
      simp only [Zfg,if_neg h13,if_pos h2] at e
      exact e
     go_wp2
     go_roundw
     case rel=>exact ⟨q+1,acc,by omega,by go_num,Below.al HW.out _,hI.alloc _,Lib.hid hn2⟩
     case measure=>simp [intOf];omega
    ·have hn2:r=none:=by
      have e:=hF.out
      rw [HD.out] at e
      simp only [Zfg,if_neg h13,if_neg h2] at e
      exact (Option.some.inj e).symm
     subst hn2
     go_wp2
     exact bodyPost_ret (v:=ZnB none) (by simp [results,Tryz.results117,go_sem, *];rfl) rfl ⟨rfl,Below.al HW.out _⟩
  ·have hz:r=some acc:=by
    have e:=hF.out
    rw [List.drop_eq_nil_of_le (by rw [← HN.out];omega)] at e
    exact (Option.some.inj e).symm
   subst hz
   go_wp2_with (go_at_call 176;refine (Tryz.Builder_String_any_f w.heap.size w.heap.size acc _ hI HW.out.size).mono ?_)
   rintro e W1 ⟨rfl,_,b1⟩
   go_wp2
   exact bodyPost_ret (v:=ZnB (some acc)) (by simp [results,Tryz.results117,go_sem, *];rfl) rfl ⟨rfl,HW.out.trans b1⟩
def ZgW (acc:List UInt8):List Node→Option (Option (List UInt8))
 | []=>some (some acc)
 | x::xs=>if x.kind=1∨x.kind=3 then (if acc.length+x.text.size≤140737488355328 then ZgW (acc++x.text.data.toList) xs else none) else if x.kind=2 then ZgW acc xs else some none
theorem ZnC:∀ (xs:List NodeW) (l:List Node) (acc:List UInt8),xs.length=l.length→(∀ (i:Nat) (x:NodeW) (y:Node),xs[i]? = some x→l[i]? = some y→x.kind=y.kind∧x.text=y.text)→Zfg acc xs=ZgW acc l
 | [],[],acc,_,_=>rfl
 | x::xs,y::l,acc,hl,h=>by
   obtain ⟨h1,h2⟩:=h 0 x y rfl rfl
   have ih:=fun acc=>ZnC xs l acc (by simpa using hl) (fun i a b ha hb=>h (i+1) a b ha hb)
   simp only [Zfg,ZgW,h1,h2,ih]
def Zgx:Value→SlW
 | .slice A n c=>⟨A,n,c⟩
 | _=>⟨none,0,0⟩
theorem ZsK {x:Ctx} {els:List (List PV)} {v:Value} (h:Rep x (.sl els) v):v = .slice (Zgx v).a (Zgx v).n (Zgx v).c:=by
 cases h
 rfl
theorem ZlM {x:Ctx} (hflt:∀ b o,x.F b o→b<x.W.heap.size) {L:List Node} {v:Value} (h:Rep x (.sl (L.map Node.cs)) v):∃ A n c xs,v = .slice A n c∧SlR x.W A n c xs∧∀ acc,Zfg acc xs=ZgW acc L:=by
 generalize hels:(L.map Node.cs)=els at h
 cases h with
 | sl _ A n c k b off f hn hc hm hk hA hcell hh=>
   subst hels
   have hx:∀ (i:Nat) (y:NodeW),(L.mapIdx fun i nd=>(⟨nd.kind,nd.tag,nd.text,Zgx (f i 3),Zgx (f i 4)⟩:NodeW))[i]? = some y→∃ nd,L[i]? = some nd∧y=⟨nd.kind,nd.tag,nd.text,Zgx (f i 3),Zgx (f i 4)⟩:=fun i y hi=>by
    rw [List.getElem?_mapIdx] at hi
    cases hL:L[i]? with
    | none=>rw [hL] at hi;cases hi
    | some nd=>rw [hL] at hi;injection hi with hi;exact ⟨nd,rfl,hi.symm⟩
   refine ⟨A,n,c,L.mapIdx fun i nd=>(⟨nd.kind,nd.tag,nd.text,Zgx (f i 3),Zgx (f i 4)⟩:NodeW),rfl,⟨by simpa using hn,hc,hm,fun h0=>?_⟩,fun acc=>ZnC _ _ _ (by simp) fun i y nd hi hd=>?_⟩
   ·have hL:0<L.length:=by rw [hn,List.length_map] at h0;exact h0
    have hk5:k=5:=by
     obtain ⟨s,hs⟩:∃ s,L[0]? = some s:=⟨_,List.getElem?_eq_getElem hL⟩
     exact (hk (Node.cs s) (List.mem_map.2 ⟨s,List.mem_of_getElem? hs,rfl⟩)).symm
    subst hk5
    have el:∀ i nd,L[i]? = some nd→(L.map Node.cs)[i]? = some (Node.cs nd):=fun i nd hi=>by rw [List.getElem?_map,hi];rfl
    obtain ⟨s0,hs0⟩:∃ s,L[0]? = some s:=⟨_,List.getElem?_eq_getElem hL⟩
    refine ⟨b,off,fun i=>[f i 0,f i 1,f i 2,f i 3,f i 4],hA h0,trivial,hflt _ _ (hcell 0 0 _ _ (el 0 s0 hs0) rfl).2.1,fun i y hi=>?_⟩
    obtain ⟨nd,hd,rfl⟩:=hx i y hi
    have e:=el i nd hd
    refine ⟨?_,fun j u hj=>?_⟩
    ·have r0:=hh i 0 _ _ e rfl
     have r1:=hh i 1 _ _ e rfl
     have r2:=hh i 2 _ _ e rfl
     have r3:=ZsK (hh i 3 _ _ e rfl)
     have r4:=ZsK (hh i 4 _ _ e rfl)
     have q0:f i 0 = .int .i64 nd.kind:=by generalize f i 0=u at r0;cases r0;rfl
     have q1:f i 1 = .int .i64 nd.tag:=by generalize f i 1=u at r1;cases r1;rfl
     have q2:f i 2 = .string nd.text:=by generalize f i 2=u at r2;cases r2;rfl
     show [f i 0,f i 1,f i 2,f i 3,f i 4] = [.int .i64 nd.kind,.int .i64 nd.tag,.string nd.text,.slice (Zgx (f i 3)).a (Zgx (f i 3)).n (Zgx (f i 3)).c,.slice (Zgx (f i 4)).a (Zgx (f i 4)).n (Zgx (f i 4)).c]
     rw [q0,q1,q2,← r3,← r4]
    ·match j,hj with
     | 0,hj=>injection hj with hj;subst hj;exact (hcell i 0 _ _ e rfl).2.2
     | 1,hj=>injection hj with hj;subst hj;exact (hcell i 1 _ _ e rfl).2.2
     | 2,hj=>injection hj with hj;subst hj;exact (hcell i 2 _ _ e rfl).2.2
     | 3,hj=>injection hj with hj;subst hj;exact (hcell i 3 _ _ e rfl).2.2
     | 4,hj=>injection hj with hj;subst hj;exact (hcell i 4 _ _ e rfl).2.2
     | j+5,hj=>simp at hj
   ·obtain ⟨nd',h1,rfl⟩:=hx i y hi
    rw [hd] at h1
    injection h1 with h1
    subst h1
    exact ⟨rfl,rfl⟩
def ZeM (l:List Node):Option (ByteArray×Bool):=match ZgW [] l with
 | some (some t)=>some (⟨t.toArray⟩,true)
 | some none=>some (⟨#[]⟩,false)
 | none=>none
theorem Zvd {x:Ctx} (a:ByteArray) (c:Bool):Rep x (.tup [.str a,.bool c]) (.tuple #[.string a,.bool c]):=.tup _ _ rfl fun i p v hp hv=>by
 match i,hp,hv with
 | 0,hp,hv=>injection hp with hp;injection hv with hv;subst hp hv;exact .str _
 | 1,hp,hv=>injection hp with hp;injection hv with hv;subst hp hv;exact .bool _
 | i+2,hp,_=>simp at hp
theorem args1 {x:Ctx} {p:PV} {vs:Array Value} (h:Pre x [p] none vs):∃ v,vs = #[v]∧Rep x p v:=by
 obtain ⟨v,hv⟩:∃ v,vs = #[v]:=Array.size_eq_one_iff.1 h.size.symm
 exact ⟨v,hv,h.rep 0 _ _ rfl (by rw [hv];rfl)⟩
theorem ZlN (l:List Node) (r:ByteArray×Bool) (h:ZeM l=some r):Zo Tryz.prog 117 [.sl (List.map Node.cs l)] (.tup [.str r.1,.bool r.2]):=by
 obtain ⟨o,ho,hv⟩:∃ o,ZgW [] l=some o∧ZnB o = .tuple #[.string r.1,.bool r.2]:=by
  unfold ZeM at h
  split at h
  ·cases h;exact ⟨_,‹_›,rfl⟩
  ·cases h;exact ⟨_,‹_›,rfl⟩
  ·cases h
 exact Zew (by kernel_rfl) rfl (fun x=>Zvd _ _) fun x vs hp _=>by
  obtain ⟨v,rfl,h1⟩:=args1 hp
  obtain ⟨A,n,c,xs,rfl,hS,he⟩:=ZlM hp.flt h1
  rw [← hv]
  exact Zp2 A n c xs o ((he []).trans ho) x.W hS
end Go.Proofs.YtmgfammllddkhaaGreatDoor
set_option linter.unusedVariables false
set_option maxHeartbeats 4000000
set_option maxRecDepth 100000
namespace Go.Proofs.YtmgfammllddkhaaGreatDoor
open VL
def Zbs (p0:List Node):Option (Title×Bool):=
 (ZeM p0).bind fun r1=>
 (Zcl r1.1).bind fun r2=>
 letk (fun (x5:Bool)=>
  if x5 then
   (some ((⟨0,(⟨#[]⟩:ByteArray)⟩:Title),false):Option (Title×Bool))
  else
  (ZcT r2).bind fun r6=>
  if (!decide (r6.2=0)) then
   (some ((⟨0,(⟨#[]⟩:ByteArray)⟩:Title),false):Option (Title×Bool))
  else
  letk (fun (x8:Bool)=>
   letk (fun (x9:Int)=>
    (some ((⟨x9,r6.1.name⟩:Title),true):Option (Title×Bool))) fun k3=>
   if x8 then
    k3 3
   else
   k3 r6.1.space) fun k2=>
  if (decide (r6.1.space=0)) then
   (ZF r2 (⟨#[58]⟩:ByteArray)).bind fun r10=>
   k2 (!r10)
  else
  k2 false) fun k1=>
 if (!r1.2) then
  k1 true
 else
 (ZF r2 (⟨#[35]⟩:ByteArray)).bind fun r11=>
 if r11 then
  k1 true
 else
 (ZF r2 (⟨#[47]⟩:ByteArray)).bind fun r12=>
 k1 r12
theorem Zh7 (p0:List Node) (r:Title×Bool) (h:Zbs p0=some r):Zo Tryz.prog 67 [.sl (List.map Node.cs p0)] (.tup [r.1.pv,.bool r.2]):=by
 refine cF (fun r=>.tup [r.1.pv,.bool r.2]) h mix Tryz.func67 fun r h=>?_
 unfold Zbs at h
 refine Zq ?_
 refine rg ?_
 refine rg ?_
 refine aC h (ZlN _) fun r1 h=>?_
 refine rg ?_
 refine aC h (Zgd _) fun r2 h=>?_
 refine jL h (fun x5=>mkS [(2,.ptr 2 (1,2) 0),(6,.str r2),(25,.bool x5)] [(2,some ((1,2),.box [.int .i64 0,.str (⟨#[]⟩:ByteArray)]))] 2) (fun k1 h=>?_) fun x5 h=>?_
 ·refine rg ?_
  refine kS 18 h rfl (fun h=>?_) fun h=>?_
  ·iterate 4 refine ZN rfl (Zq ?_)
   exact jn true h (sR [(2,1,0)])
  refine aC h (Zao _ _) fun r11 h=>?_
  refine kS 22 h rfl (fun h=>?_) fun h=>?_
  ·iterate 2 refine ZN rfl (Zq ?_)
   exact jn true h (sR [(2,1,0)])
  refine aC h (Zao _ _) fun r12 h=>?_
  exact jn r12 h (sR [(2,1,0)])
 refine cS h rfl (fun h=>?_) fun h=>?_
 ·refine rg ?_
  cases h
  exact rQ
 refine rg ?_
 refine aC h (Zfx _) fun r6 h=>?_
 refine rg ?_
 refine cS h rfl (fun h=>?_) fun h=>?_
 ·refine rg ?_
  cases h
  exact rQ
 refine jL h (fun x8=>mkS [(2,.ptr 2 (1,2) 0),(7,.ptr 7 (1,7) 0),(42,.bool x8)] [(2,some ((1,2),.box [.int .i64 0,.str (⟨#[]⟩:ByteArray)])),(7,some ((1,7),.box (Title.cs r6.1)))] 2) (fun k2 h=>?_) fun x8 h=>?_
 ·refine rg ?_
  refine kS 38 h rfl (fun h=>?_) fun h=>?_
  ·refine aC h (Zao _ _) fun r10 h=>?_
   exact jn (!r10) h (sR [(2,1,2),(7,2,5)])
  iterate 3 refine ZN rfl (Zq ?_)
  exact jn false h (sR [(2,1,2),(7,2,5)])
 refine jL h (fun x9=>mkS [(2,.ptr 2 (1,2) 0),(7,.ptr 7 (1,7) 0)] [(2,some ((1,2),.box [.int .i64 0,.str (⟨#[]⟩:ByteArray)])),(7,some ((1,7),.box [.int .i64 x9,.str r6.1.name]))] 2) (fun k3 h=>?_) fun x9 h=>?_
 ·refine cS h rfl (fun h=>?_) fun h=>?_
  ·refine rg ?_
   exact jn 3 h (sR [(2,1,2),(7,1,7)])
  exact jn r6.1.space h (sR [(2,1,2),(7,1,7)])
 refine rg ?_
 cases h
 exact rQ
def ZaJ:Nat→Finder→(List Node)→Option Finder
 | 0,_,_=>none
 | mF+1,p0,p1=>
 Zbq Zel (fun f7 ((x13,x14,x15):Int×(List Link)×(List Memb))=>
  if (decide (x13<(p1.length:Int))) then
   letk (fun (x33:List Link) (x34:List Memb)=>
    f7 ((w64 (x13+1)),x33,x34)) fun k9=>
   (atI p1 x13).bind fun e35=>
   if (decide (e35.kind=1)) then
    (ZaI (⟨x14,x15⟩:Finder) e35.text).bind fun r36=>
    k9 r36.links r36.members
   else
   letk (fun (x37:Bool)=>
    if x37 then
     (Zbh e35.kids).bind fun l38=>
     (ZaJ mF (⟨x14,x15⟩:Finder) l38).bind fun r39=>
     k9 r39.links r39.members
    else
    k9 x14 x15) fun k10=>
   if (decide (e35.kind=6)) then
    k10 (!decide (e35.tag=2))
   else
   k10 false
  else
  (some (⟨x14,x15⟩:Finder):Option Finder)) (0,p0.links,p0.members)
theorem Zg7 (mF:Nat):∀ (p0:Finder) (p1:List Node) (r:Finder),ZaJ mF p0 p1=some r→ContractP Tryz.prog 30 [.ptr 0 (0,0) 0,.sl (List.map Node.cs p1)] 0 [.row 42 3 false (List.map Link.cs p0.links),.row 45 3 false (List.map Memb.cs p0.members)] (.tup []) [.row 42 3 false (List.map Link.cs r.links),.row 45 3 false (List.map Memb.cs r.members)]:=by
 induction mF with
 | zero=>intro p0 p1 r h;cases h
 | succ mF ihF=>
 intro p0 p1 r h
 refine Zgn (R:=fun r=>.tup []) (O:=fun r=>[.row 42 3 false (List.map Link.cs r.links),.row 45 3 false (List.map Memb.cs r.members)]) h mix Tryz.func30 (by kernel_rfl) rfl (by kernel_rfl) rfl fun r h=>?_
 simp only [ZaJ] at h
 refine Zq ?_
 refine rg ?_
 refine lM Node.cs p1 ?_
 refine bl ?_
 refine ZW h fun f7 mf7 hf7 h=>?_
 refine ZH (α:=Nat×(Int×(List Link)×(List Memb))) (fun a _=>mkS [(0,.ptr 0 (0,0) 0),(6,.sl (List.map Node.cs p1)),(7,.int .i64 (p1.length:Int)),(8,.int .i64 a.2.1)] [(0,some ((0,0),.box [.row 1000 (1,1000),.row 1001 (1,1001)])),(1000,some ((1,1000),.row 42 3 false (List.map Link.cs a.2.2.1))),(1001,some ((1,1001),.row 45 3 false (List.map Memb.cs a.2.2.2)))] 2) (fun a=>Zbq a.1 f7 a.2=some r) (fun a=>a.1) (mf7,0,p0.links,p0.members) 2 h (sR [(1000,0,1000),(1001,0,1001)]) (fun a _ h=>?_)
 obtain ⟨mf7,x13,x14,x15⟩:=a
 obtain ⟨mf7,rfl,h⟩:=ZX hf7 h
 dsimp only at h ⊢
 refine Zq ?_
 refine rg ?_
 refine cS h rfl (fun h=>?_) fun h=>?_
 ·refine Zcr h fun k9 hk9 h=>?_
  refine Zb3 (α:=(List Link)×(List Memb)) (fun a _=>mkS [(0,.ptr 0 (0,0) 0),(6,.sl (List.map Node.cs p1)),(7,.int .i64 (p1.length:Int)),(8,.int .i64 x13)] [(0,some ((0,0),.box [.row 1000 (1,1000),.row 1001 (1,1001)])),(1000,some ((1,1000),.row 42 3 false (List.map Link.cs a.1))),(1001,some ((1,1001),.row 45 3 false (List.map Memb.cs a.2)))] 2) (fun a=>k9 a.1 a.2=some r) (Zq ?_) (fun a _ h=>?_)
  ·refine bl ?_
   refine rg ?_
   refine aI Node.cs h fun e35 h=>?_
   refine bl ?_
   refine rg ?_
   refine cS h rfl (fun h=>?_) fun h=>?_
   ·refine rg ?_
    obtain ⟨r36,h22,h⟩:=bnd h
    refine Zgy (Zfn _ _ _ h22) rfl rfl rfl rfl rfl rfl rfl rfl (Zq ?_)
    exact jn (r36.links,r36.members) h (sR [(1000,5,1000003),(1001,5,2000003)])
   refine jL h (fun x37=>mkS [(0,.ptr 0 (0,0) 0),(5,.ptr 5 (1,5) 0),(6,.sl (List.map Node.cs p1)),(7,.int .i64 (p1.length:Int)),(8,.int .i64 x13),(20,.bool x37)] [(0,some ((0,0),.box [.row 1000 (1,1000),.row 1001 (1,1001)])),(5,some ((1,5),.box [.int .i64 e35.kind,.int .i64 e35.tag,.str e35.text,.sl e35.kids,.sl e35.args])),(1000,some ((1,1000),.row 42 3 false (List.map Link.cs x14))),(1001,some ((1,1001),.row 45 3 false (List.map Memb.cs x15)))] 2) (fun k10 h=>?_) fun x37 h=>?_
   ·refine rg ?_
    refine kS 24 h rfl (fun h=>?_) fun h=>?_
    ·exact jn (!decide (e35.tag=2)) h (sR [(5,3,2),(1000,1,1000),(1001,1,1001)])
    iterate 3 refine ZN rfl (Zq ?_)
    exact jn false h (sR [(5,3,2),(1000,1,1000),(1001,1,1001)])
   refine cS h rfl (fun h=>?_) fun h=>?_
   ·refine rg ?_
    obtain ⟨l38,h23,h⟩:=bnd h
    refine ZtZ 31 (ZdL h23) rfl (Zq ?_)
    obtain ⟨r39,h24,h⟩:=bnd h
    refine Zgy (ihF _ _ _ h24) rfl rfl rfl rfl rfl rfl rfl rfl (Zq ?_)
    exact jn (r39.links,r39.members) h (sR [(1000,2,1000003),(1001,2,2000003)])
   exact jn (x14,x15) h (sR [(1000,1,1000),(1001,1,1001)])
  obtain ⟨x33,x34⟩:=a
  subst hk9
  dsimp only at h ⊢
  refine Zq ?_
  refine rg ?_
  exact rn (mf7,(w64 (x13+1)),x33,x34) h (sR [(1000,1,1000),(1001,1,1001)])
 cases h
 exact Zlr rfl rfl rfl rfl rfl rfl
def Zt:Nat→Finder→(List Node)→Option Finder
 | 0,_,_=>none
 | mF+1,p0,p1=>
 Zbq Zel (fun f15 ((x93,x94,x95):Int×(List Link)×(List Memb))=>
  if (decide (x93<(p1.length:Int))) then
   letk (fun (x233:List Link) (x234:List Memb)=>
    f15 ((w64 (x93+1)),x233,x234)) fun k19=>
   (atI p1 x93).bind fun e235=>
   letk (fun (x236:Bool)=>
    if x236 then
     k19 x94 x95
    else
    letk (fun (x240:List Link)=>
     (Zbh e235.kids).bind fun l241=>
     (Zt mF (⟨x240,x95⟩:Finder) l241).bind fun r242=>
     (ZlV e235.args).bind fun l243=>
     Zbq Zel (fun f22 ((x254,x255,x256):Int×(List Link)×(List Memb))=>
      if (decide (x254<(l243.length:Int))) then
       (atI l243 x254).bind fun e272=>
       (Zbh e272.name).bind fun l273=>
       (Zt mF (⟨x255,x256⟩:Finder) l273).bind fun r274=>
       (Zbh e272.value).bind fun l275=>
       (Zt mF r274 l275).bind fun r276=>
       f22 ((w64 (x254+1)),r276.links,r276.members)
      else
      k19 x255 x256) (0,r242.links,r242.members)) fun k21=>
    if (decide (e235.kind=4)) then
     (Zbh e235.kids).bind fun l277=>
     (Zbs l277).bind fun r278=>
     if r278.2 then
      (Zjw 32 x94 [(⟨2,r278.1⟩:Link)]).bind fun l279=>
      k21 l279
     else
     k21 x94
    else
    k21 x94) fun k20=>
   if (decide (e235.kind=6)) then
    k20 (decide (e235.tag=2))
   else
   k20 false
  else
  (some (⟨x94,x95⟩:Finder):Option Finder)) (0,p0.links,p0.members)
theorem ZeR (mF:Nat):∀ (p0:Finder) (p1:List Node) (r:Finder),Zt mF p0 p1=some r→ContractP Tryz.prog 31 [.ptr 0 (0,0) 0,.sl (List.map Node.cs p1)] 0 [.row 42 3 false (List.map Link.cs p0.links),.row 45 3 false (List.map Memb.cs p0.members)] (.tup []) [.row 42 3 false (List.map Link.cs r.links),.row 45 3 false (List.map Memb.cs r.members)]:=by
 induction mF with
 | zero=>intro p0 p1 r h;cases h
 | succ mF ihF=>
 intro p0 p1 r h
 refine Zgn (R:=fun r=>.tup []) (O:=fun r=>[.row 42 3 false (List.map Link.cs r.links),.row 45 3 false (List.map Memb.cs r.members)]) h mix Tryz.func31 (by kernel_rfl) rfl (by kernel_rfl) rfl fun r h=>?_
 simp only [Zt] at h
 refine Zq ?_
 refine rg ?_
 refine lM Node.cs p1 ?_
 refine bl ?_
 refine ZW h fun f15 mf15 hf15 h=>?_
 refine ZH (α:=Nat×(Int×(List Link)×(List Memb))) (fun a _=>mkS [(0,.ptr 0 (0,0) 0),(10,.sl (List.map Node.cs p1)),(11,.int .i64 (p1.length:Int)),(12,.int .i64 a.2.1)] [(0,some ((0,0),.box [.row 1000 (1,1000),.row 1001 (1,1001)])),(1000,some ((1,1000),.row 42 3 false (List.map Link.cs a.2.2.1))),(1001,some ((1,1001),.row 45 3 false (List.map Memb.cs a.2.2.2)))] 2) (fun a=>Zbq a.1 f15 a.2=some r) (fun a=>a.1) (mf15,0,p0.links,p0.members) 2 h (sR [(1000,0,1000),(1001,0,1001)]) (fun a _ h=>?_)
 obtain ⟨mf15,x93,x94,x95⟩:=a
 obtain ⟨mf15,rfl,h⟩:=ZX hf15 h
 dsimp only at h ⊢
 refine Zq ?_
 refine rg ?_
 refine cS h rfl (fun h=>?_) fun h=>?_
 ·refine Zcr h fun k19 hk19 h=>?_
  refine Zb3 (α:=(List Link)×(List Memb)) (fun a _=>mkS [(0,.ptr 0 (0,0) 0),(10,.sl (List.map Node.cs p1)),(11,.int .i64 (p1.length:Int)),(12,.int .i64 x93)] [(0,some ((0,0),.box [.row 1000 (1,1000),.row 1001 (1,1001)])),(1000,some ((1,1000),.row 42 3 false (List.map Link.cs a.1))),(1001,some ((1,1001),.row 45 3 false (List.map Memb.cs a.2)))] 2) (fun a=>k19 a.1 a.2=some r) (Zq ?_) (fun a _ h=>?_)
  ·refine bl ?_
   refine rg ?_
   refine aI Node.cs h fun e235 h=>?_
   refine jL h (fun x236=>mkS [(0,.ptr 0 (0,0) 0),(5,.ptr 5 (1,5) 0),(10,.sl (List.map Node.cs p1)),(11,.int .i64 (p1.length:Int)),(12,.int .i64 x93),(23,.bool x236)] [(0,some ((0,0),.box [.row 1000 (1,1000),.row 1001 (1,1001)])),(5,some ((1,5),.box [.int .i64 e235.kind,.int .i64 e235.tag,.str e235.text,.sl e235.kids,.sl e235.args])),(1000,some ((1,1000),.row 42 3 false (List.map Link.cs x94))),(1001,some ((1,1001),.row 45 3 false (List.map Memb.cs x95)))] 2) (fun k20 h=>?_) fun x236 h=>?_
   ·refine rg ?_
    refine kS 19 h rfl (fun h=>?_) fun h=>?_
    ·exact jn (decide (e235.tag=2)) h (sR [(5,3,2),(1000,1,1000),(1001,1,1001)])
    iterate 3 refine ZN rfl (Zq ?_)
    exact jn false h (sR [(5,3,2),(1000,1,1000),(1001,1,1001)])
   refine cS h rfl (fun h=>?_) fun h=>?_
   ·exact jn (x94,x95) h (sR [(1000,1,1000),(1001,1,1001)])
   refine rg ?_
   refine jL h (fun x240=>mkS [(0,.ptr 0 (0,0) 0),(5,.ptr 5 (1,5) 0),(10,.sl (List.map Node.cs p1)),(11,.int .i64 (p1.length:Int)),(12,.int .i64 x93)] [(0,some ((0,0),.box [.row 1000 (1,1000),.row 1001 (1,1001)])),(5,some ((1,5),.box [.int .i64 e235.kind,.int .i64 e235.tag,.str e235.text,.sl e235.kids,.sl e235.args])),(1000,some ((1,1000),.row 42 3 false (List.map Link.cs x240))),(1001,some ((1,1001),.row 45 3 false (List.map Memb.cs x95)))] 2) (fun k21 h=>?_) fun x240 h=>?_
   ·refine cS h rfl (fun h=>?_) fun h=>?_
    ·refine rg ?_
     obtain ⟨l277,h238,h⟩:=bnd h
     refine ZtZ 29 (ZdL h238) rfl (Zq ?_)
     refine aC h (Zh7 _) fun r278 h=>?_
     refine rg ?_
     refine cS h rfl (fun h=>?_) fun h=>?_
     ·refine rg ?_
      refine Zc5 (M:=([(⟨2,r278.1⟩:Link)]:List Link)) (f:=Link.cs) rfl rfl rfl rfl (Nat.le_of_ble_eq_true rfl) rfl (Zq ?_)
      refine pR Link.cs h fun l279 h=>?_
      exact jn l279 h (sR [(5,1,5),(1000,5,8),(1001,1,1001)])
     exact jn x94 h (sR [(5,1,5),(1000,1,1000),(1001,1,1001)])
    exact jn x94 h (sR [(5,1,5),(1000,1,1000),(1001,1,1001)])
   refine rg ?_
   obtain ⟨l241,h205,h⟩:=bnd h
   refine ZtZ 47 (ZdL h205) rfl (Zq ?_)
   obtain ⟨r242,h206,h⟩:=bnd h
   refine Zgy (ihF _ _ _ h206) rfl rfl rfl rfl rfl rfl rfl rfl (Zq ?_)
   refine rg ?_
   obtain ⟨l243,h207,h⟩:=bnd h
   refine ZtZ 50 (Zqg h207) rfl (Zq ?_)
   refine lM Arg.cs l243 ?_
   refine bl ?_
   refine ZW h fun f22 mf22 hf22 h=>?_
   refine ZH (α:=Nat×(Int×(List Link)×(List Memb))) (fun a _=>mkS [(0,.ptr 0 (0,0) 0),(10,.sl (List.map Node.cs p1)),(11,.int .i64 (p1.length:Int)),(12,.int .i64 x93),(50,.sl (List.map Arg.cs l243)),(51,.int .i64 (l243.length:Int)),(52,.int .i64 a.2.1)] [(0,some ((0,0),.box [.row 1000 (1,1000),.row 1001 (1,1001)])),(1000,some ((1,1000),.row 42 3 false (List.map Link.cs a.2.2.1))),(1001,some ((1,1001),.row 45 3 false (List.map Memb.cs a.2.2.2)))] 2) (fun a=>Zbq a.1 f22 a.2=some r) (fun a=>a.1) (mf22,0,r242.links,r242.members) 2 h (sR [(1000,2,1000003),(1001,2,2000003)]) (fun a _ h=>?_)
   obtain ⟨mf22,x254,x255,x256⟩:=a
   obtain ⟨mf22,rfl,h⟩:=ZX hf22 h
   dsimp only at h ⊢
   refine Zq ?_
   refine rg ?_
   refine cS h rfl (fun h=>?_) fun h=>?_
   ·refine bl ?_
    refine rg ?_
    refine aI Arg.cs h fun e272 h=>?_
    refine rg ?_
    obtain ⟨l273,h234,h⟩:=bnd h
    refine ZtZ 58 (ZdL h234) rfl (Zq ?_)
    obtain ⟨r274,h235,h⟩:=bnd h
    refine Zgy (ihF _ _ _ h235) rfl rfl rfl rfl rfl rfl rfl rfl (Zq ?_)
    refine rg ?_
    obtain ⟨l275,h236,h⟩:=bnd h
    refine ZtZ 62 (ZdL h236) rfl (Zq ?_)
    obtain ⟨r276,h237,h⟩:=bnd h
    refine Zgy (ihF _ _ _ h237) rfl rfl rfl rfl rfl rfl rfl rfl (Zq ?_)
    refine rg ?_
    exact rn (mf22,(w64 (x254+1)),r276.links,r276.members) h (sR [(1000,5,1000003),(1001,5,2000003)])
   exact jn (x255,x256) h (sR [(1000,1,1000),(1001,1,1001)])
  obtain ⟨x233,x234⟩:=a
  subst hk19
  dsimp only at h ⊢
  refine Zq ?_
  refine rg ?_
  exact rn (mf15,(w64 (x93+1)),x233,x234) h (sR [(1000,1,1000),(1001,1,1001)])
 cases h
 exact Zlr rfl rfl rfl rfl rfl rfl
end Go.Proofs.YtmgfammllddkhaaGreatDoor

namespace Go.Proofs.YtmgfammllddkhaaGreatDoor
open VL Go.RowKit
def strings_Compare (a b:ByteArray):Option Int:=some (Lib.compareBytes a.data.toList b.data.toList)
theorem Zhr (a b:ByteArray) (r:Int) (h:strings_Compare a b=some r):Zo Tryz.prog 71 [.str a,.str b] (.int .i64 r):=by
 unfold strings_Compare at h
 cases h
 exact ZaF (vals:=[.string a,.string b]) (by kernel_rfl) rfl rfl (fun x=>.int _ _) fun w hw=>(Zkf a b w).mono fun e w' ⟨h1,h2⟩=>⟨h1,by rw [← h2];exact Below.refl _ _⟩
end Go.Proofs.YtmgfammllddkhaaGreatDoor
namespace Go.Proofs.YtmgfammllddkhaaGreatDoor
open VL
def ZcC (p0:Int):Option Bool:=
 (some (!decide (p0=p0)):Option Bool)
theorem ZfF (p0:Int) (r:Bool) (h:ZcC p0=some r):Zo Tryz.prog 70 [.int .i64 p0] (.bool r):=by
 refine cF (fun r=>.bool r) h mix Tryz.func70 fun r h=>?_
 unfold ZcC at h
 refine Zq ?_
 refine rg ?_
 refine rg ?_
 cases h
 exact rQ
def cmp_Compare_int (p0:Int) (p1:Int):Option Int:=
 (ZcC p0).bind fun r1=>
 (ZcC p1).bind fun r2=>
 if r1 then
  if r2 then
   (some 0:Option Int)
  else
  (some (-1):Option Int)
 else
 if r2 then
  (some 1:Option Int)
 else
 if (decide (p0<p1)) then
  (some (-1):Option Int)
 else
 if (decide (p1<p0)) then
  (some 1:Option Int)
 else
 (some 0:Option Int)
theorem ZhB (p0:Int) (p1:Int) (r:Int) (h:cmp_Compare_int p0 p1=some r):Zo Tryz.prog 35 [.int .i64 p0,.int .i64 p1] (.int .i64 r):=by
 refine cF (fun r=>.int .i64 r) h mix Tryz.func35 fun r h=>?_
 unfold cmp_Compare_int at h
 refine Zq ?_
 refine rg ?_
 refine rg ?_
 refine aC h (ZfF _) fun r1 h=>?_
 refine rg ?_
 refine aC h (ZfF _) fun r2 h=>?_
 refine rg ?_
 refine cS h rfl (fun h=>?_) fun h=>?_
 ·refine rg ?_
  refine cS h rfl (fun h=>?_) fun h=>?_
  ·refine rg ?_
   cases h
   exact rQ
  refine rg ?_
  cases h
  exact rQ
 refine rg ?_
 refine cS h rfl (fun h=>?_) fun h=>?_
 ·refine rg ?_
  cases h
  exact rQ
 refine rg ?_
 refine cS h rfl (fun h=>?_) fun h=>?_
 ·refine rg ?_
  cases h
  exact rQ
 refine rg ?_
 refine cS h rfl (fun h=>?_) fun h=>?_
 ·refine rg ?_
  cases h
  exact rQ
 refine rg ?_
 cases h
 exact rQ
def ZdO (p0:List Int):Option Int:=
 Zbq Zel (fun f2 (x10:Int)=>
  if (decide (x10<(p0.length:Int))) then
   (atI p0 x10).bind fun e14=>
   if (!decide (e14=0)) then
    (some e14:Option Int)
   else
   f2 (w64 (x10+1))
  else
  (some 0:Option Int)) 0
theorem Zl6 (p0:List Int) (r:Int) (h:ZdO p0=some r):Zo Tryz.prog 34 [.sl (List.map csI p0)] (.int .i64 r):=by
 refine cF (fun r=>.int .i64 r) h mix Tryz.func34 fun r h=>?_
 unfold ZdO at h
 refine Zq ?_
 refine rg ?_
 refine rg ?_
 refine rg ?_
 refine lM csI p0 ?_
 refine bl ?_
 refine ZW h fun f2 mf2 hf2 h=>?_
 refine ZH (α:=Nat×Int) (fun a _=>mkS [(3,.int .i64 0),(6,.sl (List.map csI p0)),(7,.int .i64 (p0.length:Int)),(8,.int .i64 a.2)] [] 2) (fun a=>Zbq a.1 f2 a.2=some r) (fun a=>a.1) (mf2,0) 2 h (sR []) (fun a _ h=>?_)
 obtain ⟨mf2,x10⟩:=a
 obtain ⟨mf2,rfl,h⟩:=ZX hf2 h
 dsimp only at h ⊢
 refine Zq ?_
 refine rg ?_
 refine cS h rfl (fun h=>?_) fun h=>?_
 ·refine bl ?_
  refine rg ?_
  refine aI csI h fun e14 h=>?_
  refine rg ?_
  refine cS h rfl (fun h=>?_) fun h=>?_
  ·refine rg ?_
   cases h
   exact rQ
  refine rg ?_
  exact rn (mf2,(w64 (x10+1))) h (sR [])
 refine rg ?_
 cases h
 exact rQ
def ZcD (p0:Title) (p1:Title):Option Int:=
 (cmp_Compare_int p0.space p1.space).bind fun r1=>
 (strings_Compare p0.name p1.name).bind fun r2=>
 (ZdO [r1,r2]).bind fun r3=>
 (some r3:Option Int)
theorem Zjh (p0:Title) (p1:Title) (r:Int) (h:ZcD p0 p1=some r):Zo Tryz.prog 36 [p0.pv,p1.pv] (.int .i64 r):=by
 refine cF (fun r=>.int .i64 r) h mix Tryz.func36 fun r h=>?_
 unfold ZcD at h
 refine Zq ?_
 refine rg ?_
 refine rg ?_
 refine aC h (ZhB _ _) fun r1 h=>?_
 refine aC h (Zhr _ _) fun r2 h=>?_
 refine bM csI ([r1,r2]:List Int) ?_
 refine aL h (Zl6 _) fun r3 h=>?_
 cases h
 exact rQ
def Zb0 (p0:Memb) (p1:Memb):Option Int:=
 (ZcD p0.category p1.category).bind fun r1=>
 (some r1:Option Int)
theorem ZdB (p0:Memb) (p1:Memb) (r:Int) (h:Zb0 p0 p1=some r):Zo Tryz.prog 38 [p0.pv,p1.pv] (.int .i64 r):=by
 refine cF (fun r=>.int .i64 r) h mix Tryz.func38 fun r h=>?_
 unfold Zb0 at h
 refine Zq ?_
 refine rg ?_
 refine rg ?_
 refine aC h (Zjh _ _) fun r1 h=>?_
 cases h
 exact rQ
def Zec (p0:Memb) (p1:Memb):Option Bool:=
 (some (decide (p0.category=p1.category)):Option Bool)
theorem Zg4 (p0:Memb) (p1:Memb) (r:Bool) (h:Zec p0 p1=some r):Zo Tryz.prog 40 [p0.pv,p1.pv] (.bool r):=by
 refine cF (fun r=>.bool r) h mix Tryz.func40 fun r h=>?_
 unfold Zec at h
 refine Zq ?_
 refine rg ?_
 refine rg ?_
 refine ZoX (.inl rfl) rfl rfl rfl rfl rfl (fun W=>Zrv p0.category p1.category W) (Zq ?_)
 cases h
 exact rQ
end Go.Proofs.YtmgfammllddkhaaGreatDoor
namespace Go.Proofs.YtmgfammllddkhaaGreatDoor
open Go.RowKit
theorem Ztv (a b:Link) (W:World):(binOp .eql 42 (.agg #[.int .i64 a.kind,.int .i64 a.title.space,.string a.title.name]) (.agg #[.int .i64 b.kind,.int .i64 b.title.space,.string b.title.name])).run Tryz.prog W = .ok (.bool (decide (a=b))) W:=by
 have e:(if a.kind=b.kind then if a.title.space=b.title.space then if a.title.name.toList=b.title.name.toList then true else false else false else false)=(decide (a=b)):=by
  obtain ⟨a1,⟨a2,a3⟩⟩:=a
  obtain ⟨b1,⟨b2,b3⟩⟩:=b
  simp only [Link.mk.injEq,Title.mk.injEq,ZdP]
  (repeat' split)<;>simp_all
 rw [← e]
 go_simp
 (repeat' split)<;>simp_all
theorem Zp7 (a b:Link) (W:World):(binOp .neq 42 (.agg #[.int .i64 a.kind,.int .i64 a.title.space,.string a.title.name]) (.agg #[.int .i64 b.kind,.int .i64 b.title.space,.string b.title.name])).run Tryz.prog W = .ok (.bool (!decide (a=b))) W:=by
 have e:(if a.kind=b.kind then if a.title.space=b.title.space then if a.title.name.toList=b.title.name.toList then false else true else true else true)=(!decide (a=b)):=by
  obtain ⟨a1,⟨a2,a3⟩⟩:=a
  obtain ⟨b1,⟨b2,b3⟩⟩:=b
  simp only [Link.mk.injEq,Title.mk.injEq,ZdP]
  (repeat' split)<;>simp_all
 rw [← e]
 go_simp
 (repeat' split)<;>simp_all
theorem Ztw (a b:Memb) (W:World):(binOp .neq 45 (.agg #[.int .i64 a.category.space,.string a.category.name,.string a.sort]) (.agg #[.int .i64 b.category.space,.string b.category.name,.string b.sort])).run Tryz.prog W = .ok (.bool (!decide (a=b))) W:=by
 have e:(if a.category.space=b.category.space then if a.category.name.toList=b.category.name.toList then if a.sort.toList=b.sort.toList then false else true else true else true)=(!decide (a=b)):=by
  obtain ⟨⟨a1,a2⟩,a3⟩:=a
  obtain ⟨⟨b1,b2⟩,b3⟩:=b
  simp only [Memb.mk.injEq,Title.mk.injEq,ZdP]
  (repeat' split)<;>simp_all
 rw [← e]
 go_simp
 (repeat' split)<;>simp_all
end Go.Proofs.YtmgfammllddkhaaGreatDoor
namespace Go.Proofs.YtmgfammllddkhaaGreatDoor
namespace VL
open Go.RowKit Go.Sort
theorem Zi0 {P:Program} [WInv P] {f g:FuncId} {E k:Nat} {els els':List (List PV)} (hg:isGo P f=true) (len:∀ e ∈ els',e.length=k) (pure:∀ e ∈ els',∀ p ∈ e,p.pure=true) (plain:(Zbv els.flatten).isSome=true)
  (calls:∀ (W:World) (v:Value) (vs:List Value),W.ownsRow 0 E k v els.length vs→Zbv els.flatten=some vs→Calls P f #[v,.func (.func g) #[] #[]] W fun e W'=>
   ∃ vs',e = .returned (.tuple #[])∧Zbv els'.flatten=some vs'∧W'.ownsRow 0 E k v els'.length vs'∧Gr (fun b=>blk v=some b) W W'):ContractR P f [.fn g []] E k els (.tup []) els':=by
 refine ⟨hg,fun x vs hpre hinv=>?_⟩
 have hsz:2=vs.size:=hpre.size
 obtain ⟨v,u,rfl⟩:∃ v u,vs = #[v,u]:=by
  obtain ⟨l⟩:=vs
  match l,hsz with
  | [v,u],_=>exact ⟨v,u,rfl⟩
 have r0:=hpre.rep 0 _ v rfl rfl
 have r1:=hpre.rep 1 _ u rfl rfl
 obtain ⟨hG,hO⟩:=hpre.ob
 obtain ⟨h1,h2,ws,h3,h4,h5⟩:=hO
 have hρ:x.ρ (0,0)=v:=by cases r0 with | row _ _ A n c _ hvv=>exact hvv
 obtain rfl:u = .func (.func g) #[] #[]:=by
  cases r1 with
  | fn _ _ cs hl _=>
    have:cs = #[]:=Array.eq_empty_of_size_eq_zero hl.symm
    rw [this]
 rw [hρ] at h3
 obtain ⟨vs0,hp0⟩:=Option.isSome_iff_exists.1 plain
 have hvs:ws=vs0:=Zhp _ hp0 ws (by rw [Zah els h1];exact h3.1.symm) h4
 rw [← hvs] at hp0
 refine (calls x.W v ws h3 hp0).mono ?_
 rintro e' W' ⟨vs',rfl,hp',hown',hgr⟩
 have hnF:∀ b o,x.F b o→¬ blk v=some b:=fun b o hF hb=>by
  have:=((h5 b (by rw [hρ];exact hb)).2 o hF).1
  cases this
 have hD:∀ b,¬ Dr x b→¬ blk v=some b:=fun b hb e=>hb (by unfold Dr;rw [hρ];exact e)
 refine ⟨⟨x.G,x.F,W',x.ρ⟩,.tuple #[],rfl,rfl,⟨⟨fun _ h=>⟨h,rfl⟩,fun _ _ h=>h,fun b o w hF hw=>(World.cell?_of_block (hgr.block b (hpre.flt b o hF) (hnF b o hF))).trans hw⟩,⟨hgr.os,hgr.tape,hgr.output,hgr.size,fun b hb hn=>hgr.block b hb (hD b hn)⟩,fun _ _ h=>.inl h,fun b o hb=>Nat.lt_of_lt_of_le (hpre.flt b o hb) hgr.size,.tup [] #[] rfl (fun i p v hp=>by simp at hp),⟨len,pure,vs',?_,fun m p w hm hw=>?_,fun b hb=>⟨(h5 b hb).1,fun o ho=>absurd ((h5 b hb).2 o ho).1 (by simp)⟩⟩⟩⟩
 ·show W'.ownsRow 0 E k (x.ρ (0,0)) els'.length vs'
  rw [hρ]
  exact hown'
 ·obtain ⟨w2,h6,h7⟩:=Zfy hp' hm
  rw [hw] at h6
  injection h6 with h6
  subst h6
  rw [← h7]
  exact Zg2 _ w
section
variable {α:Type} (le:α→α→Bool)
def Zh5 (x:α):List α→List α
 | []=>[x]
 | y::l=>if le x y=true then x::y::l else y::Zh5 x l
def Zak:List α→List α
 | []=>[]
 | x::l=>Zh5 le x (Zak l)
theorem Zi1 (x:α):∀ l:List α,(Zh5 le x l).Perm (x::l)
 | []=>.refl _
 | y::l=>by
   unfold Zh5
   split
   ·exact .refl _
   ·exact ((Zi1 x l).cons y).trans (.swap x y l)
theorem ZcX:∀ l:List α,(Zak le l).Perm l
 | []=>.refl _
 | x::l=>(Zi1 le x _).trans ((ZcX l).cons x)
variable {le}
theorem ZpV (ht:∀ a b c,le a b=true→le b c=true→le a c=true) (hl:∀ a b,(le a b||le b a)=true) (x:α):∀ l:List α,l.Pairwise (fun a b=>le a b=true)→(Zh5 le x l).Pairwise fun a b=>le a b=true
 | [],_=>by simp [Zh5]
 | y::l,h=>by
   unfold Zh5
   have hy:=List.pairwise_cons.1 h
   split
   ·rename_i hx
    exact List.pairwise_cons.2 ⟨fun z hz=>by
     rcases List.mem_cons.1 hz with rfl | hz
     ·exact hx
     ·exact ht _ _ _ hx (hy.1 z hz),h⟩
   ·rename_i hx
    refine List.pairwise_cons.2 ⟨fun z hz=>?_,ZpV ht hl x l hy.2⟩
    rcases List.mem_cons.1 ((Zi1 le x l).mem_iff.1 hz) with rfl | hz
    ·have:=hl z y
     simp only [Bool.or_eq_true] at this
     exact this.resolve_left hx
    ·exact hy.1 z hz
theorem ZeK (ht:∀ a b c,le a b=true→le b c=true→le a c=true) (hl:∀ a b,(le a b||le b a)=true):∀ l:List α,(Zak le l).Pairwise fun a b=>le a b=true
 | []=>.nil
 | x::l=>ZpV ht hl x _ (ZeK ht hl l)
theorem ZlH (ht:∀ a b c,le a b=true→le b c=true→le a c=true) (hl:∀ a b,(le a b||le b a)=true) (ha:∀ a b,le a b=true→le b a=true→a=b) (l:List α):l.mergeSort le=Zak le l:=
 List.Perm.eq_of_pairwise (fun _ _ _ _ h k=>ha _ _ h k) (List.pairwise_mergeSort ht hl l) (ZeK ht hl l) ((List.mergeSort_perm l le).trans (ZcX le l).symm)
end
def leC {α:Type} (cf:α→α→Int) (x y:α):Bool:=!ltOf cf y x
theorem Zi2 {α:Type} {cf:α→α→Int} (hO:SWO (ltOf cf)) (a b c:α) (h:leC cf a b=true) (k:leC cf b c=true):leC cf a c=true:=by
 unfold leC at *
 simp only [Bool.not_eq_true'] at *
 exact hO.ntrans _ _ _ k h
theorem Zi3 {α:Type} {cf:α→α→Int} (hO:SWO (ltOf cf)) (a b:α):(leC cf a b||leC cf b a)=true:=by
 unfold leC
 cases h:ltOf cf b a with
 | false=>rfl
 | true=>
   cases h2:ltOf cf a b with
   | false=>rfl
   | true=>
     have:=hO.trans _ _ _ h h2
     rw [hO.irrefl] at this
     cases this
theorem Znz {α:Type} {cf:α→α→Int} (hT:∀ x y,ltOf cf x y=false→ltOf cf y x=false→x=y) (a b:α) (h:leC cf a b=true) (k:leC cf b a=true):a=b:=by
 unfold leC at *
 simp only [Bool.not_eq_true'] at *
 exact hT a b k h
theorem ZjH {α:Type} [Inhabited α] (enc:α→List Value) (k:Nat) (hk:∀ x,(enc x).length=k) {w:World} {g cap n:Nat} {cur:Array Value} {E:TypeId} {M:List α} (os:Array Obj) (hb:w.heap[g]? = some (.cells cur E (0,0))) (h1:M.length≤cap) (h2:cap≤maxLen) (h3:cur.size=cap * k) :
  (sortWorldK enc k w g 0 n M.toArray os).ownsRow 0 E k (.slice (some ⟨g,0,none⟩) M.length cap) M.length (M.flatMap enc)∧Gr (fun b=>blk (.slice (some ⟨g,0,none⟩) M.length cap)=some b) w (sortWorldK enc k w g 0 n M.toArray os):=by
 obtain ⟨o1,o2⟩:=ZmP (n:=n) enc k hk (M:=M) hb h1 h2 h3
 have hg:g<w.heap.size:=(Array.getElem?_eq_some_iff.1 hb).1
 have hold:∀ b,b<(putRowK enc k (Sort.ahead w n) g 0 M.toArray).heap.size→(sortWorldK enc k w g 0 n M.toArray os).heap[b]? = (putRowK enc k (Sort.ahead w n) g 0 M.toArray).heap[b]?:=fun b hb=>by
  show (_++os)[b]? = _
  rw [Array.getElem?_append_left hb]
 have hsz:w.heap.size≤(putRowK enc k (Sort.ahead w n) g 0 M.toArray).heap.size:=o2.size
 refine ⟨⟨o1.1,?_⟩,o2.os,o2.tape,o2.output,Nat.le_trans hsz (by show _≤(_++os).size;simp),fun b hb hn=>(hold b (Nat.lt_of_lt_of_le hb hsz)).trans (o2.block b hb hn)⟩
 rcases o1.2 with h | ⟨b,c,cu,q1,q2,q3,q4⟩
 ·exact .inl h
 ·injection q1 with q5 q6 q7
  injection q5 with q5
  injection q5 with q5
  subst q5 q7
  exact .inr ⟨g,cap,cu,rfl,q2,by rw [hold g (Nat.lt_of_lt_of_le hg hsz)];exact q3,q4⟩
theorem Zoj {P:Program} [WInv P] {α:Type} [Inhabited α] {f g:FuncId} {E k:Nat} {cs:α→List PV} {enc:α→List Value} (hg:isGo P f=true) (hpl:∀ x,Zbv (cs x)=some (enc x)) (hk:∀ x,(enc x).length=k) (hc:∀ x,(cs x).length=k) (hp:∀ x,∀ p ∈ cs x,p.pure=true) {cf:α→α→Int} (hO:SWO (ltOf cf)) (hT:∀ x y,ltOf cf x y=false→ltOf cf y x=false→x=y)
  (hnone:∀ (cap:Nat) (W:World) (A:Option Addr),Calls P f #[.slice A 0 cap,.func (.func g) #[] #[]] W fun e w'=>e = .returned (.tuple #[])∧w'=W)
  (hsort:∀ (blk off cap:Nat) (d:Array α) (w:World),HoldsK enc k w blk off d→blk<w.heap.size→d.size<4611686018427387904→Calls P f #[.slice (some ⟨blk,off,none⟩) d.size cap,.func (.func g) #[] #[]] w fun e w'=>e = .returned (.tuple #[])∧∃ n os,w'=sortWorldK enc k w blk off n (d.toList.mergeSort fun x y=>!(ltOf cf) y x).toArray os)
  (M:List α) (hM:M.length<4611686018427387904):ContractR P f [.fn g []] E k (M.map cs) (.tup []) ((Zak (leC cf) M).map cs):=by
 refine Zi0 hg (fun e he=>?_) (fun e he p hpp=>?_) (by rw [Zd4 hpl];rfl) fun W v vs hown hvs=>?_
 ·obtain ⟨x,_,rfl⟩:=List.mem_map.1 he
  exact hc x
 ·obtain ⟨x,_,rfl⟩:=List.mem_map.1 he
  exact hp x p hpp
 ·rw [Zd4 hpl] at hvs
  injection hvs with hvs
  subst hvs
  rw [List.length_map] at hown
  have hlen:(Zak (leC cf) M).length=M.length:=(ZcX _ M).length_eq
  rcases hown.2 with ⟨hn,h0⟩ | ⟨b,cap,cur,hv,hB,hh,h1,h2,h3,ht⟩
  ·obtain rfl:M = []:=List.eq_nil_of_length_eq_zero h0
   subst hn
   refine (hnone 0 W none).mono ?_
   rintro e w' ⟨rfl,rfl⟩
   exact ⟨[],rfl,rfl,World.ownsRow_nil _ _ _ _,Gr.refl _ _⟩
  ·subst hv
   have hH:=Zoi enc k hk hh ht
   have:=hsort b 0 cap M.toArray W hH (Array.getElem?_eq_some_iff.1 hh).1 (by simpa using hM)
   refine Calls.mono this ?_
   rintro e w' ⟨rfl,n,os,rfl⟩
   rw [show M.toArray.toList=M from rfl,ZlH (le:=fun x y=>!(ltOf cf) y x) (Zi2 hO) (Zi3 hO) (Znz hT)]
   obtain ⟨o1,o2⟩:=ZjH (n:=n) enc k hk (M:=Zak (leC cf) M) os hh (by omega) h2 h3
   rw [hlen] at o1 o2
   refine ⟨(Zak (leC cf) M).flatMap enc,rfl,Zd4 hpl _,?_,?_⟩
   ·rw [List.length_map,hlen]
    exact o1
   ·exact o2
end VL
end Go.Proofs.YtmgfammllddkhaaGreatDoor
namespace Go.Proofs.YtmgfammllddkhaaGreatDoor
namespace VL
open Go.Sort
structure CmpLaws {α:Type} (c:α→α→Int):Prop where
 zero:∀ x y,c x y=0↔x=y
 neg:∀ x y,c x y<0↔0<c y x
 trans:∀ x y z,c x y<0→c y z<0→c x z<0
theorem CmpLaws.swo {α:Type} {c:α→α→Int} (h:CmpLaws c):SWO (ltOf c) where
 irrefl x:=by
  have:=(h.zero x x).2 rfl
  unfold ltOf
  rw [this]
  rfl
 trans x y z h1 h2:=by
  unfold ltOf at *
  simp only [decide_eq_true_eq] at *
  exact h.trans x y z h1 h2
 ntrans x y z h1 h2:=by
  unfold ltOf at *
  simp only [decide_eq_false_iff_not] at *
  intro h3
  by_cases e1:x=y
  ·subst e1
   exact h2 h3
  by_cases e2:y=z
  ·subst e2
   exact h1 h3
  have n1:c y x<0:=(h.neg y x).2 (by have:¬ c x y=0:=fun e=>e1 ((h.zero x y).1 e)
                                     omega)
  have n2:c z y<0:=(h.neg z y).2 (by have:¬ c y z=0:=fun e=>e2 ((h.zero y z).1 e)
                                     omega)
  have n3:=h.trans z y x n2 n1
  have:=(h.neg x z).1 h3
  omega
theorem CmpLaws.tot {α:Type} {c:α→α→Int} (h:CmpLaws c) (x y:α) (h1:ltOf c x y=false) (h2:ltOf c y x=false):x=y:=by
 unfold ltOf at *
 simp only [decide_eq_false_iff_not] at *
 have:=(h.neg y x).2
 exact (h.zero x y).1 (by omega)
def ZpH (a b:Int):Int:=if a=0 then b else a
theorem CmpLaws.lex {α β γ:Type} {c:β→β→Int} {d:γ→γ→Int} (hc:CmpLaws c) (hd:CmpLaws d) {f:α→β} {g:α→γ} (hi:∀ x y,f x=f y→g x=g y→x=y):CmpLaws fun x y=>ZpH (c (f x) (f y)) (d (g x) (g y)) where
 zero x y:=by
  unfold ZpH
  by_cases h:c (f x) (f y)=0
  ·rw [if_pos h]
   exact ⟨fun h2=>hi x y ((hc.zero _ _).1 h) ((hd.zero _ _).1 h2),fun h2=>by rw [h2];exact (hd.zero _ _).2 rfl⟩
  ·rw [if_neg h]
   exact ⟨fun h2=>absurd h2 h,fun h2=>absurd ((hc.zero _ _).2 (by rw [h2])) h⟩
 neg x y:=by
  unfold ZpH
  by_cases h:f x=f y
  ·rw [if_pos ((hc.zero _ _).2 h),if_pos ((hc.zero _ _).2 h.symm)]
   exact hd.neg _ _
  ·rw [if_neg (fun e=>h ((hc.zero _ _).1 e)),if_neg (fun e=>h ((hc.zero _ _).1 e).symm)]
   exact hc.neg _ _
 trans x y z:=by
  unfold ZpH
  by_cases h1:f x=f y
  ·rw [if_pos ((hc.zero _ _).2 h1),h1]
   by_cases h2:c (f y) (f z)=0
   ·rw [if_pos h2,if_pos h2]
    exact hd.trans _ _ _
   ·rw [if_neg h2,if_neg h2]
    exact fun _ h=>h
  ·rw [if_neg (fun e=>h1 ((hc.zero _ _).1 e))]
   by_cases h2:f y=f z
   ·rw [if_pos ((hc.zero _ _).2 h2),← h2,if_neg (fun e=>h1 ((hc.zero _ _).1 e))]
    exact fun h _=>h
   ·rw [if_neg (fun e=>h2 ((hc.zero _ _).1 e))]
    intro h3 h4
    have h5:=hc.trans _ _ _ h3 h4
    rw [if_neg (by omega)]
    exact h5
theorem cmpInt_laws:CmpLaws Lib.compareInt where
 zero x y:=by
  unfold Lib.compareInt
  split
  ·omega
  ·split<;>omega
 neg x y:=by
  unfold Lib.compareInt
  split<;>split<;>(try split)<;>omega
 trans x y z:=by
  unfold Lib.compareInt
  intro h1 h2
  split at h1
  ·split at h2
   ·rw [if_pos (by omega)];decide
   ·split at h2<;>omega
  ·split at h1<;>omega
theorem ZgQ:∀ a b:List UInt8,Lib.compareBytes a b=0↔a=b
 | [],[]=>by simp [Lib.compareBytes]
 | [],_::_=>by simp [Lib.compareBytes]
 | _::_,[]=>by simp [Lib.compareBytes]
 | a::l,b::m=>by
   unfold Lib.compareBytes
   split
   ·rename_i h
    refine Iff.intro (fun h2=>absurd h2 (by decide)) (fun h2=>?_)
    have h3:a=b:=(List.cons.inj h2).1
    rw [h3] at h
    exact absurd h (UInt8.lt_irrefl _)
   split
   ·rename_i h
    refine Iff.intro (fun h2=>absurd h2 (by decide)) (fun h2=>?_)
    have h3:a=b:=(List.cons.inj h2).1
    rw [h3] at h
    exact absurd h (UInt8.lt_irrefl _)
   ·rename_i h1 h2
    rw [ZgQ l m]
    have:a=b:=UInt8.le_antisymm (UInt8.not_lt.1 h2) (UInt8.not_lt.1 h1)
    rw [this]
    simp
theorem ZhS:∀ a b:List UInt8,Lib.compareBytes a b<0↔0<Lib.compareBytes b a
 | [],[]=>by simp [Lib.compareBytes]
 | [],_::_=>by simp [Lib.compareBytes]
 | _::_,[]=>by simp [Lib.compareBytes]
 | a::l,b::m=>by
   unfold Lib.compareBytes
   by_cases h:a<b
   ·rw [if_pos h,if_neg (fun h2=>UInt8.lt_irrefl _ (UInt8.lt_trans h h2)),if_pos h]
    decide
   ·rw [if_neg h]
    by_cases h2:b<a
    ·rw [if_pos h2,if_pos h2]
     decide
    ·rw [if_neg h2,if_neg h2,if_neg h]
     exact ZhS l m
theorem Zgg:∀ a b c:List UInt8,Lib.compareBytes a b<0→Lib.compareBytes b c<0→Lib.compareBytes a c<0
 | _,[],[],_,h2=>by simp [Lib.compareBytes] at h2
 | [],_,_::_,_,_=>by simp [Lib.compareBytes]
 | _::_,[],_,h1,_=>by simp [Lib.compareBytes] at h1
 | _,_::_,[],_,h2=>by simp [Lib.compareBytes] at h2
 | a::l,b::m,c::n,h1,h2=>by
   unfold Lib.compareBytes at *
   by_cases hab:a<b
   ·by_cases hbc:b<c
    ·rw [if_pos (UInt8.lt_trans hab hbc)];decide
    ·rw [if_neg hbc] at h2
     by_cases hcb:c<b
     ·rw [if_pos hcb] at h2;exact absurd h2 (by decide)
     ·have:b=c:=UInt8.le_antisymm (UInt8.not_lt.1 hcb) (UInt8.not_lt.1 hbc)
      rw [if_pos (by rw [← this];exact hab)];decide
   ·rw [if_neg hab] at h1
    by_cases hba:b<a
    ·rw [if_pos hba] at h1;exact absurd h1 (by decide)
    ·have e:a=b:=UInt8.le_antisymm (UInt8.not_lt.1 hba) (UInt8.not_lt.1 hab)
     subst e
     rw [if_neg hba] at h1
     by_cases hbc:a<c
     ·rw [if_pos hbc];decide
     ·rw [if_neg hbc] at h2 ⊢
      by_cases hcb:c<a
      ·rw [if_pos hcb] at h2;exact absurd h2 (by decide)
      ·rw [if_neg hcb] at h2 ⊢
       exact Zgg l m n h1 h2
theorem ZmK:CmpLaws fun a b:ByteArray=>Lib.compareBytes a.data.toList b.data.toList where
 zero x y:=by
  rw [ZgQ]
  exact ⟨fun h=>by obtain ⟨⟨x⟩⟩:=x;obtain ⟨⟨y⟩⟩:=y;exact congrArg (fun l:List UInt8=>(⟨⟨l⟩⟩:ByteArray)) h,fun h=>by rw [h]⟩
 neg x y:=ZhS _ _
 trans x y z:=Zgg _ _ _
end VL
end Go.Proofs.YtmgfammllddkhaaGreatDoor
namespace Go.Proofs.YtmgfammllddkhaaGreatDoor
open Go.RowKit
open Go.Sort (grow grow_grow alloc_eq_grow)
def Gw (w w':World):Prop:=∃ (q:Nat) (os:Array Obj),w'=grow (w.drewN q) os
theorem Gw.refl (w:World):Gw w w:=⟨0,#[],by simp [grow,World.drewN]⟩
theorem Gw.alloc {w w':World} (h:Gw w w') (o:Obj):Gw w (w'.alloc o):=by
 obtain ⟨q,os,rfl⟩:=h
 exact ⟨q,os ++ #[o],by rw [alloc_eq_grow,grow_grow]⟩
theorem Gw.drew {w w':World} (h:Gw w w'):Gw w w'.drew:=by
 obtain ⟨q,os,rfl⟩:=h
 exact ⟨q+1,os,rfl⟩
theorem Gw.trans {a b c:World} (h:Gw a b) (k:Gw b c):Gw a c:=by
 obtain ⟨q,os,rfl⟩:=h
 obtain ⟨q2,os2,rfl⟩:=k
 refine ⟨q+q2,os++os2,?_⟩
 simp [grow,World.drewN,Array.append_assoc,Nat.add_assoc]
theorem Gw.below {w w':World} (h:Gw w w'):Below w.heap.size w w':=by
 obtain ⟨q,os,rfl⟩:=h
 refine ⟨rfl,rfl,rfl,by simp [grow,World.drewN],fun k hk=>?_⟩
 show (w.heap++os)[k]? = w.heap[k]?
 rw [Array.getElem?_append_left hk]
set_option maxHeartbeats 400000 in
theorem ZiZ (a b:Title) (w:World):Calls Tryz.prog 36 #[.agg #[.int .i64 a.space,.string a.name],.agg #[.int .i64 b.space,.string b.name]] w fun e w'=>e = .returned (.int .i64 (Title.cmp a b))∧Gw w w':=by
 go_enter Tryz.func36,Tryz.ntmps36
 go_wp2
 generalize hw1:(w.alloc _).alloc _=w1
 have c0:w1.cell? ⟨w.heap.size,0,none⟩=some (.int .i64 a.space):=by subst hw1;go_simp
 have c1:w1.cell? ⟨w.heap.size,1,none⟩=some (.string a.name):=by subst hw1;go_simp
 have c2:w1.cell? ⟨w.heap.size+1,0,none⟩=some (.int .i64 b.space):=by subst hw1;go_simp
 have c3:w1.cell? ⟨w.heap.size+1,1,none⟩=some (.string b.name):=by subst hw1;go_simp
 have hb:Gw w w1:=by subst hw1;exact ((Gw.refl _).alloc _).alloc _
 have HB:=Lib.hid hb
 clear hw1 hb
 go_region_held3 (fun W=>W.cell? ⟨w.heap.size,0,none⟩=some (.int .i64 a.space)∧W.cell? ⟨w.heap.size,1,none⟩=some (.string a.name)∧W.cell? ⟨w.heap.size+1,0,none⟩=some (.int .i64 b.space)∧W.cell? ⟨w.heap.size+1,1,none⟩=some (.string b.name)) (first | exact ⟨c0,c1,c2,c3⟩ | (refine ⟨?_,?_,?_,?_⟩<;>first | exact re1 (((Below.refl _ _).alloc (Nat.le_refl _) _).drew) (ZbJ (by assumption)) (by assumption))) (first | (go_at_call 35;refine (Zke _ _ _).mono ?_;rintro e w' ⟨rfl,rfl⟩) | (go_at_call 71;refine (Zkf _ _ _).mono ?_;rintro e w' ⟨rfl,rfl⟩)  | (go_at_call 34;refine (ZsN _ _ _ [Lib.compareInt a.space b.space,Lib.compareBytes a.name.data.toList b.name.data.toList] _ (by exact SlR.built (fun x:Int=>[.int .i64 x]) (fun _ _ _=>rfl) _ _ rfl (by decide) rfl)).mono ?_;rintro e w' ⟨rfl,rfl⟩))
 go_wp2
 go_ret
 exact ⟨rfl,(HB.out.alloc _).drew⟩
def Zcj (a b:Link):Int:=orI [Lib.compareInt a.kind b.kind,Title.cmp a.title b.title]
def Zgv (x:Link):List Value:=[.int .i64 x.kind,.int .i64 x.title.space,.string x.title.name]
set_option maxHeartbeats 1000000 in
theorem ZjE (a b:Link) (w:World):Calls Tryz.prog 33 #[.agg (Zgv a).toArray,.agg (Zgv b).toArray] w fun e w'=>e = .returned (.int .i64 (Zcj a b))∧Gw w w':=by
 unfold Zgv
 go_enter Tryz.func33,Tryz.ntmps33
 go_wp2
 generalize hw1:(w.alloc _).alloc _=w1
 have c0:w1.cell? ⟨w.heap.size,0,none⟩=some (.int .i64 a.kind):=by subst hw1;go_simp
 have c1:w1.cell? ⟨w.heap.size,1,none⟩=some (.int .i64 a.title.space):=by subst hw1;go_simp
 have c2:w1.cell? ⟨w.heap.size,2,none⟩=some (.string a.title.name):=by subst hw1;go_simp
 have c3:w1.cell? ⟨w.heap.size+1,0,none⟩=some (.int .i64 b.kind):=by subst hw1;go_simp
 have c4:w1.cell? ⟨w.heap.size+1,1,none⟩=some (.int .i64 b.title.space):=by subst hw1;go_simp
 have c5:w1.cell? ⟨w.heap.size+1,2,none⟩=some (.string b.title.name):=by subst hw1;go_simp
 have hb:Gw w w1:=by subst hw1;exact ((Gw.refl _).alloc _).alloc _
 have HB:=Lib.hid hb
 have HF:Hid (∀ W,Gw w1 W→W.cell? ⟨w.heap.size,0,none⟩=some (.int .i64 a.kind)∧W.cell? ⟨w.heap.size,1,none⟩=some (.int .i64 a.title.space)∧W.cell? ⟨w.heap.size,2,none⟩=some (.string a.title.name)∧W.cell? ⟨w.heap.size+1,0,none⟩=some (.int .i64 b.kind)∧W.cell? ⟨w.heap.size+1,1,none⟩=some (.int .i64 b.title.space)∧W.cell? ⟨w.heap.size+1,2,none⟩=some (.string b.title.name)):=Lib.hid fun W hW=>⟨re1 hW.below (ZbJ c0) c0,re1 hW.below (ZbJ c1) c1,re1 hW.below (ZbJ c2) c2,re1 hW.below (ZbJ c3) c3,re1 hW.below (ZbJ c4) c4,re1 hW.below (ZbJ c5) c5⟩
 clear hw1 hb
 go_region_held3 (fun W=>Gw w1 W∧W.cell? ⟨w.heap.size,0,none⟩=some (.int .i64 a.kind)∧W.cell? ⟨w.heap.size,1,none⟩=some (.int .i64 a.title.space)∧W.cell? ⟨w.heap.size,2,none⟩=some (.string a.title.name)∧W.cell? ⟨w.heap.size+1,0,none⟩=some (.int .i64 b.kind)∧W.cell? ⟨w.heap.size+1,1,none⟩=some (.int .i64 b.title.space)∧W.cell? ⟨w.heap.size+1,2,none⟩=some (.string b.title.name)) (refine ⟨?_,HF.out _ ?_⟩<;>(repeat' first | assumption | exact Gw.refl _ | apply Gw.drew | apply Gw.alloc)) (first | (go_at_call 35;refine (Zke _ _ _).mono ?_;rintro e w' ⟨rfl,rfl⟩) | (go_at_call 36;refine (ZiZ a.title b.title _).mono ?_;rintro e w2 ⟨rfl,hb2⟩;have hb3:Gw w1 w2:=Gw.trans (by (repeat' first | assumption | exact Gw.refl _ | apply Gw.drew | apply Gw.alloc)) hb2) | (go_at_call 34;refine (ZsN _ _ _ [Lib.compareInt a.kind b.kind,Title.cmp a.title b.title] _ (by exact SlR.built (fun x:Int=>[.int .i64 x]) (fun _ _ _=>rfl) _ _ rfl (by decide) rfl)).mono ?_;rintro e w' ⟨rfl,rfl⟩))
 go_wp2
 go_ret
 exact ⟨rfl,HB.out.trans (by (repeat' first | assumption | exact Gw.refl _ | apply Gw.drew | apply Gw.alloc))⟩
end Go.Proofs.YtmgfammllddkhaaGreatDoor
namespace Go.Proofs
open Go.Shelf
def Tryz.sortLink_ren:Go.Shelf.Ren:=⟨fun | 6=>32 | 15=>69 | 14=>68 | 28=>127 | 29=>128 | 20=>119 | 21=>120 | 22=>121 | 23=>122 | 24=>123 | 25=>124 | 26=>125 | 27=>126 | 46=>178 | 47=>179 | 48=>180 | 49=>181 | 50=>182 | 57=>212 | n=>n,fun | 22=>23 | 24=>42 | 25=>68 | 3=>3 | 39=>114 | 0=>0 | 53=>160 | 55=>162 | 4=>4 | 46=>153 | 45=>152 | 50=>157 | 5=>5 | 9=>9 | 66=>191 | 70=>195 | 76=>214 | 77=>139 | n=>n,fun | n=>n⟩
theorem Tryz.sortLink:Go.Proofs.SlLaysF0.n6 Tryz.prog Tryz.sortLink_ren:={
 mixed:=by kernel_rfl
 f6:=⟨Tryz.f32.name,by decide,Tryz.func32.trans (congrArg some (by kernel_rfl))⟩
 f14:=⟨Tryz.f68.name,by decide,Tryz.func68.trans (congrArg some (by kernel_rfl))⟩
 f15:=Tryz.func69.trans (congrArg some (by kernel_rfl))
 f20:=⟨Tryz.f119.name,by decide,Tryz.func119.trans (congrArg some (by kernel_rfl))⟩
 f21:=⟨Tryz.f120.name,by decide,Tryz.func120.trans (congrArg some (by kernel_rfl))⟩
 f22:=⟨Tryz.f121.name,by decide,Tryz.func121.trans (congrArg some (by kernel_rfl))⟩
 f23:=⟨Tryz.f122.name,by decide,Tryz.func122.trans (congrArg some (by kernel_rfl))⟩
 f24:=⟨Tryz.f123.name,by decide,Tryz.func123.trans (congrArg some (by kernel_rfl))⟩
 f25:=⟨Tryz.f124.name,by decide,Tryz.func124.trans (congrArg some (by kernel_rfl))⟩
 f26:=⟨Tryz.f125.name,by decide,Tryz.func125.trans (congrArg some (by kernel_rfl))⟩
 f27:=⟨Tryz.f126.name,by decide,Tryz.func126.trans (congrArg some (by kernel_rfl))⟩
 f28:=Tryz.func127.trans (congrArg some (by kernel_rfl))
 f29:=Tryz.func128.trans (congrArg some (by kernel_rfl))
 f46:=⟨Tryz.f178.name,by decide,Tryz.func178.trans (congrArg some (by kernel_rfl))⟩
 f47:=Tryz.func179.trans (congrArg some (by kernel_rfl))
 f48:=Tryz.func180.trans (congrArg some (by kernel_rfl))
 f49:=⟨Tryz.f181.name,by decide,Tryz.func181.trans (congrArg some (by kernel_rfl))⟩
 f50:=⟨Tryz.f182.name,by decide,Tryz.func182.trans (congrArg some (by kernel_rfl))⟩
 f57:=⟨Tryz.f212.name,by decide,Tryz.func212.trans (congrArg some (by kernel_rfl))⟩
 t0:=Tryz.underlying0
 a0:=Tryz.isAgg0
 z0:=Tryz.sizeOf0
 v0:=Tryz.zeroValue0
 t3:=Tryz.underlying3
 a3:=Tryz.isAgg3
 z3:=Tryz.sizeOf3
 v3:=Tryz.zeroValue3
 t4:=Tryz.underlying4
 a4:=Tryz.isAgg4
 z4:=Tryz.sizeOf4
 v4:=Tryz.zeroValue4
 t5:=Tryz.underlying5
 a5:=Tryz.isAgg5
 z5:=Tryz.sizeOf5
 v5:=Tryz.zeroValue5
 t9:=Tryz.underlying9
 a9:=Tryz.isAgg9
 z9:=Tryz.sizeOf9
 v9:=Tryz.zeroValue9
 t22:=Tryz.underlying23
 a22:=Tryz.isAgg23
 z22:=Tryz.sizeOf23
 v22:=Tryz.zeroValue23
 t25:=Tryz.underlying68
 a25:=Tryz.isAgg68
 z25:=Tryz.sizeOf68
 v25:=Tryz.zeroValue68
 t39:=Tryz.underlying114
 a39:=Tryz.isAgg114
 z39:=Tryz.sizeOf114
 v39:=Tryz.zeroValue114
 t45:=Tryz.underlying152
 a45:=Tryz.isAgg152
 z45:=Tryz.sizeOf152
 v45:=Tryz.zeroValue152
 t46:=Tryz.underlying153
 a46:=Tryz.isAgg153
 z46:=Tryz.sizeOf153
 v46:=Tryz.zeroValue153
 t50:=Tryz.underlying157
 a50:=Tryz.isAgg157
 z50:=Tryz.sizeOf157
 v50:=Tryz.zeroValue157
 t53:=Tryz.underlying160
 a53:=Tryz.isAgg160
 z53:=Tryz.sizeOf160
 v53:=Tryz.zeroValue160
 t55:=Tryz.underlying162
 a55:=Tryz.isAgg162
 z55:=Tryz.sizeOf162
 v55:=Tryz.zeroValue162
 t66:=Tryz.underlying191
 a66:=Tryz.isAgg191
 z66:=Tryz.sizeOf191
 v66:=Tryz.zeroValue191
 t70:=Tryz.underlying195
 a70:=Tryz.isAgg195
 z70:=Tryz.sizeOf195
 v70:=Tryz.zeroValue195
 t76:=Tryz.underlying214
 a76:=Tryz.isAgg214
 z76:=Tryz.sizeOf214
 v76:=Tryz.zeroValue214
 t77:=Tryz.underlying139
 a77:=Tryz.isAgg139
 z77:=Tryz.sizeOf139
 v77:=Tryz.zeroValue139 }
end Go.Proofs
namespace Go.Proofs.YtmgfammllddkhaaGreatDoor
open VL Go.RowKit
open Go.Sort
theorem Zlb (a b:Int):orI [a,b]=ZpH a b:=by
 unfold orI ZpH
 split
 ·unfold orI
  split
  ·rename_i h;rw [h];rfl
  ·rfl
 ·rfl
theorem titleCmp_laws:CmpLaws Title.cmp:=by
 have h:=cmpInt_laws.lex ZmK (f:=Title.space) (g:=Title.name) (fun x y h1 h2=>by cases x;cases y;simp_all)
 have e:Title.cmp=fun x y=>ZpH (Lib.compareInt x.space y.space) (Lib.compareBytes x.name.data.toList y.name.data.toList):=by
  funext x y
  exact Zlb _ _
 rw [e]
 exact h
theorem linkCmp_laws:CmpLaws Zcj:=by
 have h:=cmpInt_laws.lex titleCmp_laws (f:=Link.kind) (g:=Link.title) (fun x y h1 h2=>by cases x;cases y;simp_all)
 have e:Zcj=fun x y=>ZpH (Lib.compareInt x.kind y.kind) (Title.cmp x.title y.title):=by
  funext x y
  exact Zlb _ _
 rw [e]
 exact h
instance:Inhabited Link:=⟨⟨0,⟨0,⟨#[]⟩⟩⟩⟩
def Za4 (p0:List Link):Option (List Link):=if p0.length<4611686018427387904 then some (Zak (leC Zcj) p0) else none
theorem Zfo (p0:List Link) (r:List Link) (h:Za4 p0=some r):ContractR Tryz.prog 32 [.fn 33 []] 42 3 (List.map Link.cs p0) (.tup []) (List.map Link.cs r):=by
 unfold Za4 at h
 split at h
 ·rename_i hl
  injection h with h
  subst h
  have hk:∀ x,(Zgv x).length=3:=fun _=>rfl
  have eg:∀ args w,(callFunc 33 args).run Tryz.prog w = .ok (.enter 33 args) w:=enters_of Tryz.func33 (by kernel_rfl) rfl
  refine Zoj (enc:=Zgv) (cf:=Zcj) (by kernel_rfl) (fun _=>rfl) hk (fun _=>rfl) (fun x p hp=>?_) linkCmp_laws.swo linkCmp_laws.tot (fun cap W A=>AnyF.slices_SortFunc_none { Tryz.sortLink with } A cap _ W) (fun blk off cap d w hH hb hs=>?_) p0 hl
  ·simp [Link.cs] at hp
   rcases hp with rfl | rfl | rfl<;>rfl
  ·exact AnyQ.slices_SortFunc_total Tryz.sortLink 3 Tryz.isAgg42 Tryz.sizeOf42 Zgv hk (fun x v hv=>by simp [Zgv] at hv;rcases hv with rfl | rfl | rfl<;>rfl) Zcj linkCmp_laws.swo 33 #[] blk off cap d w eg (fun m os dk _ x y=>(ZjE x y _).mono fun e w' h=>⟨h.1,h.2⟩) hH hb hs linkCmp_laws.tot
 ·cases h
end Go.Proofs.YtmgfammllddkhaaGreatDoor
namespace Go.Proofs.YtmgfammllddkhaaGreatDoor
open VL
def ZaQ (p0:List Link):Option (List Link):=
 if (decide ((p0.length:Int)<2)) then
  (some p0:Option (List Link))
 else
 Zbq Zel (fun f82 (x570:Int)=>
  if (decide (x570<(p0.length:Int))) then
   (atI p0 x570).bind fun e784=>
   (atI p0 (w64 (x570 - 1))).bind fun e785=>
   if (decide (e784=e785)) then
    (ZoO p0 x570).bind fun _=>
    Zbq Zel (fun f97 ((x830,x831,x832):Int×Int×(List Link))=>
     if (decide (x831<(ZtX x832 x570))) then
      letk (fun (x847:Int) (x848:List Link)=>
       f97 (x847,(w64 (x831+1)),x848)) fun k98=>
      (atQ x832 x570 x831).bind fun e849=>
      (atQ x832 x570 (w64 (x831 - 1))).bind fun e850=>
      if (!decide (e849=e850)) then
       (atQ x832 x570 x831).bind fun e851=>
       (atI x832 x830).bind fun e852=>
       k98 (w64 (x830+1)) (ZeX x832 x830 e851)
      else
      k98 x830 x832
     else
     (ZoO x832 x830).bind fun _=>
     (ZsR (Zs6 x832 x830 (⟨0,(⟨0,(⟨#[]⟩:ByteArray)⟩:Title)⟩:Link)) 0 x830).bind fun l854=>
     (some l854:Option (List Link))) (x570,1,p0)
   else
   f82 (w64 (x570+1))
  else
  (some p0:Option (List Link))) 1
theorem ZfA (p0:List Link) (r:List Link) (h:ZaQ p0=some r):ContractS Tryz.prog 41 [] 42 3 (List.map Link.cs p0) (List.map Link.cs r):=by
 refine ZiM (O:=fun r=>(List.map Link.cs r)) h mix Tryz.func41 (by kernel_rfl) rfl (by kernel_rfl) fun r h=>?_
 unfold ZaQ at h
 refine Zq ?_
 refine rg ?_
 refine rg ?_
 refine lM Link.cs p0 ?_
 refine cS h rfl (fun h=>?_) fun h=>?_
 ·refine rg ?_
  cases h
  exact Zkg rfl rfl
 refine rg ?_
 refine bl ?_
 refine ZW h fun f82 mf82 hf82 h=>?_
 refine ZH (α:=Nat×Int) (fun a _=>mkS [(0,.row 0 (0,0)),(3,.int .i64 a.2)] [(0,some ((0,0),.row 42 3 false (List.map Link.cs p0)))] 2) (fun a=>Zbq a.1 f82 a.2=some r) (fun a=>a.1) (mf82,1) 2 h (sR []) (fun a _ h=>?_)
 obtain ⟨mf82,x570⟩:=a
 obtain ⟨mf82,rfl,h⟩:=ZX hf82 h
 dsimp only at h ⊢
 refine Zq ?_
 refine rg ?_
 refine lM Link.cs p0 ?_
 refine cS h rfl (fun h=>?_) fun h=>?_
 ·refine bl ?_
  refine rg ?_
  obtain ⟨e784,h584,h⟩:=bnd h
  refine ZY rfl h584 rfl rfl rfl (Zq ?_)
  refine ZaG rfl h584 rfl rfl rfl (Zq ?_)
  obtain ⟨e785,h585,h⟩:=bnd h
  refine ZY rfl h585 rfl rfl rfl (Zq ?_)
  refine ZaG rfl h585 rfl rfl rfl (Zq ?_)
  refine ZoX (.inl rfl) rfl rfl rfl rfl rfl (fun W=>Ztv e784 e785 W) (Zq ?_)
  refine cS h rfl (fun h=>?_) fun h=>?_
  ·refine rg ?_
   obtain ⟨_,h586,h⟩:=bnd h
   refine Znk rfl h586 rfl rfl rfl (Zq ?_)
   refine rg ?_
   refine bl ?_
   refine ZW h fun f97 mf97 hf97 h=>?_
   refine ZH (α:=Nat×(Int×Int×(List Link))) (fun a _=>mkS [(0,.row 0 (0,0)),(3,.int .i64 a.2.1),(4,.suf 0 (0,0) (x570).toNat 3),(5,.int .i64 a.2.2.1)] [(0,some ((0,0),.row 42 3 false (List.map Link.cs a.2.2.2)))] 2) (fun a=>Zbq a.1 f97 a.2=some r) (fun a=>a.1) (mf97,x570,1,p0) 2 h (sR []) (fun a _ h=>?_)
   obtain ⟨mf97,x830,x831,x832⟩:=a
   obtain ⟨mf97,rfl,h⟩:=ZX hf97 h
   dsimp only at h ⊢
   refine Zq ?_
   refine rg ?_
   refine ZsC (M:=x832) (f:=Link.cs) rfl rfl rfl (Zq ?_)
   refine cS h rfl (fun h=>?_) fun h=>?_
   ·refine Zcr h fun k98 hk98 h=>?_
    refine Zb3 (α:=Int×(List Link)) (fun a _=>mkS [(0,.row 0 (0,0)),(3,.int .i64 a.1),(4,.suf 0 (0,0) (x570).toNat 3),(5,.int .i64 x831)] [(0,some ((0,0),.row 42 3 false (List.map Link.cs a.2)))] 2) (fun a=>k98 a.1 a.2=some r) (Zq ?_) (fun a _ h=>?_)
    ·refine bl ?_
     refine rg ?_
     obtain ⟨e849,h631,h⟩:=bnd h
     refine ZeD rfl h631 rfl rfl rfl (Zq ?_)
     refine ZaG rfl (Zgo h631) rfl rfl rfl (Zq ?_)
     obtain ⟨e850,h632,h⟩:=bnd h
     refine ZeD rfl h632 rfl rfl rfl (Zq ?_)
     refine ZaG rfl (Zgo h632) rfl rfl rfl (Zq ?_)
     refine ZoX (.inr rfl) rfl rfl rfl rfl rfl (fun W=>Zp7 e849 e850 W) (Zq ?_)
     refine cS h rfl (fun h=>?_) fun h=>?_
     ·refine rg ?_
      obtain ⟨e851,h633,h⟩:=bnd h
      refine ZeD rfl h633 rfl rfl rfl (Zq ?_)
      refine ZaG rfl (Zgo h633) rfl rfl rfl (Zq ?_)
      obtain ⟨e852,h634,h⟩:=bnd h
      refine ZY rfl h634 rfl rfl rfl (Zq ?_)
      refine Zcg (e':=e851) rfl h634 rfl rfl rfl rfl rfl rfl (Nat.le_of_ble_eq_true rfl) rfl rfl (Zq ?_)
      refine rg ?_
      exact jn ((w64 (x830+1)),(ZeX x832 x830 e851)) h (sR [])
     exact jn (x830,x832) h (sR [])
    obtain ⟨x847,x848⟩:=a
    subst hk98
    dsimp only at h ⊢
    refine Zq ?_
    refine rg ?_
    exact rn (mf97,x847,(w64 (x831+1)),x848) h (sR [])
   refine rg ?_
   obtain ⟨_,h635,h⟩:=bnd h
   refine Znk rfl h635 rfl rfl rfl (Zq ?_)
   refine Znl (M:=x832) (f:=Link.cs) (zr:=(⟨0,(⟨0,(⟨#[]⟩:ByteArray)⟩:Title)⟩:Link)) rfl rfl rfl rfl rfl (Zq ?_)
   refine rg ?_
   obtain ⟨l854,h636,h⟩:=bnd h
   refine Znm rfl h636 rfl rfl rfl (Zq ?_)
   cases h
   exact Zkg rfl rfl
  refine rg ?_
  exact rn (mf82,(w64 (x570+1))) h (sR [])
 refine rg ?_
 cases h
 exact Zkg rfl rfl
end Go.Proofs.YtmgfammllddkhaaGreatDoor
