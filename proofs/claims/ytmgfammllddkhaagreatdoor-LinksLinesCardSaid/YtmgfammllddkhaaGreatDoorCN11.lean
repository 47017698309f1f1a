/- The parser's take: what a token does. | The parser's take, walked. | The parser's Parse. | tree.Plain: a list of nodes that is plain text. | Functions of the program as Lean functions. Written by fxgen.py. | links.finder's own and templates as folds over the nodes. | The scanner on lists of bytes. | The scanner on lists of bytes: the first token, all tokens. | All tokens of a text. | Weights of nodes and of the parser's stack: nothing grows by more than the texts that are taken. | The parser's steps return, and what they return is of bounded weight. | The parser returns: the braces, a token, all tokens. | The parser returns a tree for every text of at most 8192 bytes. | The parser over a stretch of a text: what the tokens are, and that what holds of the stack is kept. | The parser's stack above a tag: what lies below is not touched. | The parser's stack where only links are open above an element: the text is kept. | Texts whose trees are known: a comment, nowiki and includeonly; a text without tags and calls, alone or in a tag. | Trees: LinksHidden's two texts, a plain text, a plain text in a tag. | Trees: a call with plain arguments; a plain text, alone and in a tag. | A function that hands back a copy of a slice of plain cells. No program is named. | strings.Compare, as the others are written. -/
import Derived.Test.YtmgfammllddkhaaGreatDoorCN10
import Derived.Test.YtmgfammllddkhaaGreatDoorCN04
import Derived.Test.YtmgfammllddkhaaGreatDoorCN03
import Derived.Test.YtmgfammllddkhaaGreatDoorCN09
import Derived.Test.YtmgfammllddkhaaGreatDoorCN07
import Derived.Test.YtmgfammllddkhaaGreatDoorCN08
import Derived.Lib.IndexMore
import Derived.Test.YtmgfammllddkhaaGreatDoorCN06
namespace Go.Proofs.YtmgfammllddkhaaGreatDoor
open VL
def Zim (k t c:Int) (x:ByteArray) (e:El) (r:List El):Option (El×List El):=if 20≤r.length then (ZaY e x).map fun e'=>(e',r) else some (⟨k,t,c,[],none⟩,e::r)
def ZoR (e:El):Option El:=if e.kind=3 then match e.args with
  | none=>some ⟨e.kind,e.tag,e.count,e.list,some ([],⟨false,[],[]⟩)⟩
  | some (pre,a)=>if pre.length+1≤1000000 then some ⟨e.kind,e.tag,e.count,e.list,some (pre ++ [a],⟨false,[],[]⟩)⟩ else none
 else ZaY e ⟨#[124]⟩
def Zin (s:ByteArray) (t:Tok) (e:El) (r:List El):Option (El×List El):=(ZbI s t).bind fun x=>
 if t.kind=1∨t.kind=2 then (ZaY e x).map fun e'=>(e',r)
 else if t.kind=9 then (ZfN e ⟨2,0,x,[],[]⟩).map fun e'=>(e',r)
 else if t.kind=10 then (ZeZ x 8 (w64 ((x.size:Int) - 9))).bind fun y=>(ZfN e ⟨3,0,y,[],[]⟩).map fun e'=>(e',r)
 else if t.kind=3 then Zim 3 0 x.size x e r
 else if t.kind=5 then Zim 1 0 0 x e r
 else if t.kind=11 then (Zc0 s t).bind fun k=>Zim 2 k 0 x e r
 else if t.kind=7 then (ZoR e).map fun e'=>(e',r)
 else if t.kind=8 then (ZfS e).map fun e'=>(e',r)
 else if t.kind=6 then ZbU e r
 else if t.kind=12 then (Zc0 s t).bind fun k=>ZdN k x e r
 else if t.kind=4 then ZaJ (x.size+1) x.size e r
 else some (e,r)
theorem Zut (e e':El) (r:List El) (hf:fit e r) (h:ZoR e=some e'):PC 106 [] e r (.tup []) e' r:=by
 unfold ZoR at h
 split at h
 ·rename_i hk
  obtain ⟨kind,tag,count,list,args⟩:=e
  dsimp only at hk
  subst hk
  rcases args with _ | ⟨pre,a⟩
  ·injection h with h
   rw [← h]
   exact ZqN tag count list r hf.1.1
  ·dsimp only at h
   split at h
   ·injection h with h
    rw [← h]
    exact ZqP tag count list pre a r hf.1
   ·cases h
 ·rename_i hk
  exact ZqM e e' r hf.1 hf.2 hk h
theorem ZqY {e e':El} {r:List El} (hf:fit e r) (h:ZoR e=some e'):fit e' r:=by
 unfold ZoR at h
 split at h
 ·rename_i hk
  obtain ⟨kind,tag,count,list,args⟩:=e
  dsimp only at hk
  subst hk
  rcases args with _ | ⟨pre,a⟩
  ·injection h with h
   rw [← h]
   exact ⟨⟨hf.1.1,fun q hq=>by injection hq with hq;rw [← hq];exact Nat.zero_le _⟩,by show 0≤_;omega⟩
  ·dsimp only at h
   split at h
   ·rename_i hp
    injection h with h
    rw [← h]
    exact ⟨⟨hf.1.1,fun q hq=>by injection hq with hq;rw [← hq];simpa using hp⟩,by show 0≤_;omega⟩
   ·cases h
 ·exact Zah hf h
theorem ZsH (e e':El) (r:List El) (hf:fit e r) (h:ZfS e=some e'):PC 107 [] e r (.tup []) e' r:=by
 obtain ⟨kind,tag,count,list,args⟩:=e
 unfold ZfS at h
 rcases args with _ | ⟨pre,⟨named,name,value⟩⟩
 ·exact Zju _ e' r hf.1 hf.2 (.inr (.inl rfl)) h
 ·dsimp only at h
  split at h
  ·rename_i hc
   obtain ⟨h1,h2⟩:=hc
   subst h1 h2
   injection h with h
   rw [← h]
   exact Zoz tag count list pre name value r hf.1
  ·rename_i hc
   refine Zju _ e' r hf.1 hf.2 ?_ h
   by_cases hk:kind=3
   ·refine .inr (.inr ⟨pre,_,rfl,?_⟩)
    cases named
    ·exact absurd ⟨hk,rfl⟩ hc
    ·rfl
   ·exact .inl hk
theorem ZnJ {e e':El} {r:List El} (hf:fit e r) (h:ZfS e=some e'):fit e' r:=by
 obtain ⟨kind,tag,count,list,args⟩:=e
 unfold ZfS at h
 rcases args with _ | ⟨pre,⟨named,name,value⟩⟩
 ·exact Zah hf h
 ·dsimp only at h
  split at h
  ·rename_i hc
   obtain ⟨h1,h2⟩:=hc
   subst h1 h2
   injection h with h
   rw [← h]
   exact ⟨⟨hf.1.1,fun q hq=>by injection hq with hq;rw [← hq];exact hf.1.2 (pre,⟨false,name,value⟩) rfl⟩,by show 0≤_;omega⟩
  ·exact Zah hf h
theorem Zmg (e e':El) (r r':List El) (hf:fits e r) (h:ZbU e r=some (e',r')):PC 108 [] e r (.tup []) e' r':=by
 unfold ZbU at h
 split at h
 ·rename_i hk
  rcases r with _ | ⟨e2,r⟩
  ·cases h
  obtain ⟨a,h1,h⟩:=Option.bind_eq_some_iff.1 h
  obtain ⟨b,h2,h⟩:=Option.bind_eq_some_iff.1 h
  obtain ⟨c,h3,h⟩:=Option.map_eq_some_iff.1 h
  injection h with q1 q2
  subst q1 q2
  obtain ⟨kind,tag,count,list,args⟩:=e
  dsimp only at hk
  subst hk
  exact Zka tag count list args e2 a b c r (ZaC hf).1 (Zad (ZaC hf)) h1 h2 h3
 ·rename_i hk
  obtain ⟨c,h3,h⟩:=Option.map_eq_some_iff.1 h
  injection h with q1 q2
  subst q1 q2
  exact Zja e c r (Zad hf) hk h3
theorem Zio {e e':El} {r r':List El} (hf:fits e r) (h:ZbU e r=some (e',r')):fits e' r':=by
 unfold ZbU at h
 split at h
 ·rcases r with _ | ⟨e2,r⟩
  ·cases h
  obtain ⟨a,h1,h⟩:=Option.bind_eq_some_iff.1 h
  obtain ⟨b,h2,h⟩:=Option.bind_eq_some_iff.1 h
  obtain ⟨c,h3,h⟩:=Option.map_eq_some_iff.1 h
  injection h with q1 q2
  subst q1 q2
  exact Zbq (ZaC hf) (Zah (ZcE (Zah (Zad (ZaC hf)) h1) h2) h3)
 ·obtain ⟨c,h3,h⟩:=Option.map_eq_some_iff.1 h
  injection h with q1 q2
  subst q1 q2
  exact Zbq hf (Zah (Zad hf) h3)
theorem Zjb {k:Int} {s:ByteArray} {e e':El} {r r':List El} (hf:fits e r) (h:ZdN k s e r=some (e',r')):fits e' r':=by
 unfold ZdN at h
 split at h
 ·obtain ⟨c,h3,h⟩:=Option.map_eq_some_iff.1 h
  injection h with q1 q2
  subst q1 q2
  exact Zbq hf (Zah (Zad hf) h3)
 ·obtain ⟨⟨e1,r1⟩,h1,h⟩:=Option.bind_eq_some_iff.1 h
  have hf1:=ZeV hf h1
  rcases r1 with _ | ⟨e2,r2⟩
  ·cases h
  obtain ⟨c,h3,h⟩:=Option.map_eq_some_iff.1 h
  injection h with q1 q2
  subst q1 q2
  exact Zbq (ZaC hf1) (ZeJ (Zad (ZaC hf1)) h3)
theorem Zk3 {c:Int} {e e':El} {r r':List El} (hf:fits e r) (h:Ztr c e r=some (e',r')):fits e' r':=by
 obtain ⟨s,hs,h⟩:=Option.bind_eq_some_iff.1 h
 obtain ⟨a,h3,h⟩:=Option.map_eq_some_iff.1 h
 injection h with q1 q2
 subst q1 q2
 exact Zbq hf (Zah (Zad hf) h3)
theorem ZcH:∀ {f:Nat} {c:Int} {e e':El} {r r':List El},fits e r→ZaJ f c e r=some (e',r')→fits e' r'
 | 0,c,e,e',r,r',hf,h=>by cases h
 | f+1,c,e,e',r,r',hf,h=>by
   unfold ZaJ at h
   split at h
   ·split at h
    ·exact Zk3 hf h
    ·obtain ⟨⟨e1,r1⟩,h1,h⟩:=Option.bind_eq_some_iff.1 h
     have hf1:=ZeV hf h1
     split at h
     ·split at h
      ·exact ZcH (Zbq hf1 ⟨⟨by have:=hf1.1;omega,fun q hq=>by cases hq⟩,by show 1≤9223372036854775807;omega⟩) h
      ·rcases r1 with _ | ⟨e2,r2⟩
       ·cases h
       obtain ⟨e4,h4,h⟩:=Option.bind_eq_some_iff.1 h
       exact ZcH (Zbq (ZaC hf1) (Zh5 (Zad (ZaC hf1)) h4)) h
     ·cases h
   ·exact Zk3 hf h
theorem ZgX {k t c:Int} {x:ByteArray} {e e':El} {r r':List El} (hf:fits e r) (h:Zim k t c x e r=some (e',r')):fits e' r':=by
 unfold Zim at h
 split at h
 ·obtain ⟨a,h3,h⟩:=Option.map_eq_some_iff.1 h
  injection h with q1 q2
  subst q1 q2
  exact Zbq hf (Zah (Zad hf) h3)
 ·injection h with h
  injection h with q1 q2
  subst q1 q2
  refine ⟨by simp;omega,fun x hx=>?_⟩
  rcases List.mem_cons.1 hx with rfl | hx
  ·exact ⟨fun q hq=>(by cases hq),(by show 0≤_;omega)⟩
  ·exact hf.2 x hx
theorem ZoS (k t c:Int) (x:ByteArray) (e e':El) (r r':List El) (hf:fits e r) (h:Zim k t c x e r=some (e',r')) :
  ContractG Tryz.prog 104 [.ptr 0 (0,0) 0,.ptr 1 (0,1) 0,.str x] (objs (stP νa e r)++ZnL k t c) (.tup []) (stP νb e' r' ++ []):=by
 rw [List.append_nil]
 unfold Zim at h
 split at h
 ·rename_i hr
  obtain ⟨a,h3,h⟩:=Option.map_eq_some_iff.1 h
  injection h with q1 q2
  subst q1 q2
  exact ZoU e a r k t c x hr (Zad hf).1 (Zad hf).2 h3
 ·rename_i hr
  injection h with h
  injection h with q1 q2
  subst q1 q2
  exact ZoV e r k t c x (by omega)
theorem Zjz {s:ByteArray} {t:Tok} {e e':El} {r r':List El} (hf:fits e r) (h:Zin s t e r=some (e',r')):fits e' r':=by
 obtain ⟨x,hx,h⟩:=Option.bind_eq_some_iff.1 h
 have one:∀ {o:Option El},(∀ a,o=some a→fit a r)→o.map (fun e'=>(e',r))=some (e',r')→fits e' r':=fun h1 h=>by
  obtain ⟨a,h3,h⟩:=Option.map_eq_some_iff.1 h
  injection h with q1 q2
  subst q1 q2
  exact Zbq hf (h1 a h3)
 split at h
 ·exact one (fun a ha=>Zah (Zad hf) ha) h
 split at h
 ·exact one (fun a ha=>ZeJ (Zad hf) ha) h
 split at h
 ·obtain ⟨y,hy,h⟩:=Option.bind_eq_some_iff.1 h
  exact one (fun a ha=>ZeJ (Zad hf) ha) h
 split at h
 ·exact ZgX hf h
 split at h
 ·exact ZgX hf h
 split at h
 ·obtain ⟨y,hy,h⟩:=Option.bind_eq_some_iff.1 h
  exact ZgX hf h
 split at h
 ·exact one (fun a ha=>ZqY (Zad hf) ha) h
 split at h
 ·exact one (fun a ha=>ZnJ (Zad hf) ha) h
 split at h
 ·exact Zio hf h
 split at h
 ·obtain ⟨y,hy,h⟩:=Option.bind_eq_some_iff.1 h
  exact Zjb hf h
 split at h
 ·exact ZcH hf h
 ·injection h with h
  injection h with q1 q2
  subst q1 q2
  exact hf
set_option maxRecDepth 100000 in
set_option maxHeartbeats 2000000 in
theorem ZtB (s:ByteArray) (t:Tok) (e e':El) (r r':List El) (hf:fits e r) (h:Zin s t e r=some (e',r')):PC 63 [.str s,t.pv] e r (.tup []) e' r':=by
 have hft:=Zad hf
 obtain ⟨x,hx,h⟩:=Option.bind_eq_some_iff.1 h
 obtain ⟨tk,tf,tt⟩:=t
 refine Zx mix Tryz.func63 (by kernel_rfl) rfl (by kernel_rfl) ?_
 rw [ZbR]
 repeat (first | (refine Ze0 (Zht _ _ _ hx) rfl rfl ?_) | refine Zm rfl (by (conv=>lhs;whnf);try rfl) ?_ | refine Zz rfl rfl rfl ?_ | refine Zi rfl rfl ?_ | refine Zq rfl (by (conv=>lhs;whnf);try rfl) ?_ | refine ZQ rfl rfl rfl rfl (by (conv=>lhs;whnf);try rfl) ?_ | refine Zjc rfl (by (conv=>lhs;whnf);try rfl) (by (conv=>lhs;whnf);try rfl) (by rfl) ?_ | refine Zc ?_ | refine Zh ?_ | refine Za ?_ | refine Zag ?_)
 by_cases h1:tk=1
 ·subst h1
  rw [if_pos (show (1:Int)=1∨(1:Int)=2 by decide)] at h
  obtain ⟨a,ha,h⟩:=Option.map_eq_some_iff.1 h
  injection h with q1 q2
  subst q1 q2
  repeat (first | (refine Zr rfl rfl ?_) | (refine Zv [_] νa (ZbK e r x hft.1 hft.2 a ha) rfl rfl rfl rfl rfl rfl ?_) | refine Zm rfl (by (conv=>lhs;whnf);try rfl) ?_ | refine Zc ?_ | refine Za ?_ | refine Zy ?_ | refine Zw ?_ | refine ZO ?_)
  exact Zbn (.inr rfl) (νc _ _) [_] [] rfl rfl trivial rfl rfl
 by_cases h2:tk=2
 ·subst h2
  rw [if_pos (show (2:Int)=1∨(2:Int)=2 by decide)] at h
  obtain ⟨a,ha,h⟩:=Option.map_eq_some_iff.1 h
  injection h with q1 q2
  subst q1 q2
  repeat (first | (refine Zr rfl rfl ?_) | (refine Zg rfl rfl ?_) | (refine Zv [_] νa (ZbK e r x hft.1 hft.2 a ha) rfl rfl rfl rfl rfl rfl ?_) | refine Zm rfl (by (conv=>lhs;whnf);try rfl) ?_ | refine Zq rfl (by (conv=>lhs;whnf);try rfl) ?_ | refine ZQ rfl rfl rfl rfl (by (conv=>lhs;whnf);try rfl) ?_ | refine Zc ?_ | refine Za ?_ | refine Zw ?_ | refine ZO ?_)
  exact Zbn (.inr rfl) (νc _ _) [_] [] rfl rfl trivial rfl rfl
 by_cases h9:tk=9
 ·subst h9
  rw [if_neg (show ¬ ((9:Int)=1∨(9:Int)=2) by decide)] at h
  rw [if_pos (show (9:Int)=9 by decide)] at h
  obtain ⟨a,ha,h⟩:=Option.map_eq_some_iff.1 h
  injection h with q1 q2
  subst q1 q2
  repeat (first | (refine Zr rfl rfl ?_) | (refine Zg rfl rfl ?_) | (refine Zv [_] νa (Zp1 e a r 2 0 x hft.1 ha) rfl rfl rfl rfl rfl rfl ?_) | refine Zm rfl (by (conv=>lhs;whnf);try rfl) ?_ | refine Zq rfl (by (conv=>lhs;whnf);try rfl) ?_ | refine ZQ rfl rfl rfl rfl (by (conv=>lhs;whnf);try rfl) ?_ | refine Zbm rfl rfl ?_ | refine Zc ?_ | refine Zh ?_ | refine Za ?_ | refine Zw ?_ | refine ZO ?_)
  exact Zbn (.inr rfl) (νc _ _) [_] [] rfl rfl trivial rfl rfl
 by_cases h10:tk=10
 ·subst h10
  rw [if_neg (show ¬ ((10:Int)=1∨(10:Int)=2) by decide)] at h
  rw [if_neg (show ¬ (10:Int)=9 by decide)] at h
  rw [if_pos (show (10:Int)=10 by decide)] at h
  obtain ⟨y,hy,h⟩:=Option.bind_eq_some_iff.1 h
  obtain ⟨a,ha,h⟩:=Option.map_eq_some_iff.1 h
  injection h with q1 q2
  subst q1 q2
  repeat (first | (refine Zr rfl rfl ?_) | (refine Zg rfl rfl ?_) | (refine ZkS StrT.eq rfl hy rfl rfl rfl ?_) | (refine Zv [_] νa (Zp1 e a r 3 0 y hft.1 ha) rfl rfl rfl rfl rfl rfl ?_) | refine Zm rfl (by (conv=>lhs;whnf);try rfl) ?_ | refine Zq rfl (by (conv=>lhs;whnf);try rfl) ?_ | refine ZQ rfl rfl rfl rfl (by (conv=>lhs;whnf);try rfl) ?_ | refine Ze8 Tryz.underlying9 rfl rfl ?_ | refine Zbm rfl rfl ?_ | refine Zc ?_ | refine Zh ?_ | refine Za ?_ | refine Zw ?_ | refine ZO ?_)
  exact Zbn (.inr rfl) (νc _ _) [_] [] rfl rfl trivial rfl rfl
 by_cases h3:tk=3
 ·subst h3
  rw [if_neg (show ¬ ((3:Int)=1∨(3:Int)=2) by decide)] at h
  rw [if_neg (show ¬ (3:Int)=9 by decide)] at h
  rw [if_neg (show ¬ (3:Int)=10 by decide)] at h
  rw [if_pos (show (3:Int)=3 by decide)] at h
  repeat (first | (refine Zr rfl rfl ?_) | (refine Zg rfl rfl ?_) | refine Zm rfl (by (conv=>lhs;whnf);try rfl) ?_ | refine Zq rfl (by (conv=>lhs;whnf);try rfl) ?_ | refine ZQ rfl rfl rfl rfl (by (conv=>lhs;whnf);try rfl) ?_ | refine Ze8 Tryz.underlying9 rfl rfl ?_ | refine Zjc rfl (by (conv=>lhs;whnf);try rfl) (by (conv=>lhs;whnf);try rfl) (by rfl) ?_ | refine Zbm rfl rfl ?_ | refine Zc ?_ | refine Zh ?_ | refine Za ?_)
  refine Zki (xin:=ZnL _ _ _) (ext:=[]) (ext2:=[]) [_,_] νa (fun _=>40) (fun _=>(9,4)) (ZoS 3 0 x.size x e e' r r' hf h) rfl rfl rfl rfl (List.mem_cons_self ..) ⟨⟨_,rfl,rfl⟩,trivial⟩ (fun _ _=>⟨_,List.mem_cons_of_mem _ (List.mem_cons_self ..)⟩) rfl rfl rfl rfl ?_
  repeat (first | refine Zc ?_ | refine Zw ?_ | refine ZO ?_)
  exact Zbn (.inr rfl) (νc _ _) [_,_,_] [] rfl rfl trivial rfl rfl
 by_cases h5:tk=5
 ·subst h5
  rw [if_neg (show ¬ ((5:Int)=1∨(5:Int)=2) by decide)] at h
  rw [if_neg (show ¬ (5:Int)=9 by decide)] at h
  rw [if_neg (show ¬ (5:Int)=10 by decide)] at h
  rw [if_neg (show ¬ (5:Int)=3 by decide)] at h
  rw [if_pos (show (5:Int)=5 by decide)] at h
  repeat (first | (refine Zr rfl rfl ?_) | (refine Zg rfl rfl ?_) | refine Zm rfl (by (conv=>lhs;whnf);try rfl) ?_ | refine Zq rfl (by (conv=>lhs;whnf);try rfl) ?_ | refine ZQ rfl rfl rfl rfl (by (conv=>lhs;whnf);try rfl) ?_ | refine Zjc rfl (by (conv=>lhs;whnf);try rfl) (by (conv=>lhs;whnf);try rfl) (by rfl) ?_ | refine Zbm rfl rfl ?_ | refine Zc ?_ | refine Zh ?_ | refine Za ?_)
  refine Zki (xin:=ZnL _ _ _) (ext:=[]) (ext2:=[]) [_,_] νa (fun _=>47) (fun _=>(10,2)) (ZoS 1 0 0 x e e' r r' hf h) rfl rfl rfl rfl (List.mem_cons_self ..) ⟨⟨_,rfl,rfl⟩,trivial⟩ (fun _ _=>⟨_,List.mem_cons_of_mem _ (List.mem_cons_self ..)⟩) rfl rfl rfl rfl ?_
  repeat (first | refine Zc ?_ | refine Zw ?_ | refine ZO ?_)
  exact Zbn (.inr rfl) (νc _ _) [_,_,_] [] rfl rfl trivial rfl rfl
 by_cases h11:tk=11
 ·subst h11
  rw [if_neg (show ¬ ((11:Int)=1∨(11:Int)=2) by decide)] at h
  rw [if_neg (show ¬ (11:Int)=9 by decide)] at h
  rw [if_neg (show ¬ (11:Int)=10 by decide)] at h
  rw [if_neg (show ¬ (11:Int)=3 by decide)] at h
  rw [if_neg (show ¬ (11:Int)=5 by decide)] at h
  rw [if_pos (show (11:Int)=11 by decide)] at h
  obtain ⟨k,hk,h⟩:=Option.bind_eq_some_iff.1 h
  repeat (first | (refine Zr rfl rfl ?_) | (refine Zg rfl rfl ?_) | (refine Ze0 (Zig _ _ _ hk) rfl rfl ?_) | refine Zm rfl (by (conv=>lhs;whnf);try rfl) ?_ | refine Zz rfl rfl rfl ?_ | refine Zq rfl (by (conv=>lhs;whnf);try rfl) ?_ | refine ZQ rfl rfl rfl rfl (by (conv=>lhs;whnf);try rfl) ?_ | refine Zjc rfl (by (conv=>lhs;whnf);try rfl) (by (conv=>lhs;whnf);try rfl) (by rfl) ?_ | refine Zbm rfl rfl ?_ | refine Zc ?_ | refine Zh ?_ | refine Za ?_)
  refine Zki (xin:=ZnL _ _ _) (ext:=[]) (ext2:=[]) [_,_] νa (fun _=>57) (fun _=>(11,5)) (ZoS 2 k 0 x e e' r r' hf h) rfl rfl rfl rfl (List.mem_cons_self ..) ⟨⟨_,rfl,rfl⟩,trivial⟩ (fun _ _=>⟨_,List.mem_cons_of_mem _ (List.mem_cons_self ..)⟩) rfl rfl rfl rfl ?_
  repeat (first | refine Zc ?_ | refine Zw ?_ | refine ZO ?_)
  exact Zbn (.inr rfl) (νc _ _) [_,_,_] [] rfl rfl trivial rfl rfl
 by_cases h7:tk=7
 ·subst h7
  rw [if_neg (show ¬ ((7:Int)=1∨(7:Int)=2) by decide)] at h
  rw [if_neg (show ¬ (7:Int)=9 by decide)] at h
  rw [if_neg (show ¬ (7:Int)=10 by decide)] at h
  rw [if_neg (show ¬ (7:Int)=3 by decide)] at h
  rw [if_neg (show ¬ (7:Int)=5 by decide)] at h
  rw [if_neg (show ¬ (7:Int)=11 by decide)] at h
  rw [if_pos (show (7:Int)=7 by decide)] at h
  obtain ⟨a,ha,h⟩:=Option.map_eq_some_iff.1 h
  injection h with q1 q2
  subst q1 q2
  repeat (first | (refine Zr rfl rfl ?_) | (refine Zg rfl rfl ?_) | (refine Zv [_] νa (Zut e a r hft ha) rfl rfl rfl rfl rfl rfl ?_) | refine Zm rfl (by (conv=>lhs;whnf);try rfl) ?_ | refine Zq rfl (by (conv=>lhs;whnf);try rfl) ?_ | refine ZQ rfl rfl rfl rfl (by (conv=>lhs;whnf);try rfl) ?_ | refine Zc ?_ | refine Zh ?_ | refine Za ?_ | refine Zw ?_ | refine ZO ?_)
  exact Zbn (.inr rfl) (νc _ _) [_] [] rfl rfl trivial rfl rfl
 by_cases h8:tk=8
 ·subst h8
  rw [if_neg (show ¬ ((8:Int)=1∨(8:Int)=2) by decide)] at h
  rw [if_neg (show ¬ (8:Int)=9 by decide)] at h
  rw [if_neg (show ¬ (8:Int)=10 by decide)] at h
  rw [if_neg (show ¬ (8:Int)=3 by decide)] at h
  rw [if_neg (show ¬ (8:Int)=5 by decide)] at h
  rw [if_neg (show ¬ (8:Int)=11 by decide)] at h
  rw [if_neg (show ¬ (8:Int)=7 by decide)] at h
  rw [if_pos (show (8:Int)=8 by decide)] at h
  obtain ⟨a,ha,h⟩:=Option.map_eq_some_iff.1 h
  injection h with q1 q2
  subst q1 q2
  repeat (first | (refine Zr rfl rfl ?_) | (refine Zg rfl rfl ?_) | (refine Zv [_] νa (ZsH e a r hft ha) rfl rfl rfl rfl rfl rfl ?_) | refine Zm rfl (by (conv=>lhs;whnf);try rfl) ?_ | refine Zq rfl (by (conv=>lhs;whnf);try rfl) ?_ | refine ZQ rfl rfl rfl rfl (by (conv=>lhs;whnf);try rfl) ?_ | refine Zc ?_ | refine Zh ?_ | refine Za ?_ | refine Zw ?_ | refine ZO ?_)
  exact Zbn (.inr rfl) (νc _ _) [_] [] rfl rfl trivial rfl rfl
 by_cases h6:tk=6
 ·subst h6
  rw [if_neg (show ¬ ((6:Int)=1∨(6:Int)=2) by decide)] at h
  rw [if_neg (show ¬ (6:Int)=9 by decide)] at h
  rw [if_neg (show ¬ (6:Int)=10 by decide)] at h
  rw [if_neg (show ¬ (6:Int)=3 by decide)] at h
  rw [if_neg (show ¬ (6:Int)=5 by decide)] at h
  rw [if_neg (show ¬ (6:Int)=11 by decide)] at h
  rw [if_neg (show ¬ (6:Int)=7 by decide)] at h
  rw [if_neg (show ¬ (6:Int)=8 by decide)] at h
  rw [if_pos (show (6:Int)=6 by decide)] at h
  repeat (first | (refine Zr rfl rfl ?_) | (refine Zg rfl rfl ?_) | (refine Zv [_] νa (Zmg e e' r r' hf h) rfl rfl rfl rfl rfl rfl ?_) | refine Zm rfl (by (conv=>lhs;whnf);try rfl) ?_ | refine Zq rfl (by (conv=>lhs;whnf);try rfl) ?_ | refine ZQ rfl rfl rfl rfl (by (conv=>lhs;whnf);try rfl) ?_ | refine Zc ?_ | refine Zh ?_ | refine Za ?_ | refine Zw ?_ | refine ZO ?_)
  exact Zbn (.inr rfl) (νc _ _) [_] [] rfl rfl trivial rfl rfl
 by_cases h12:tk=12
 ·subst h12
  rw [if_neg (show ¬ ((12:Int)=1∨(12:Int)=2) by decide)] at h
  rw [if_neg (show ¬ (12:Int)=9 by decide)] at h
  rw [if_neg (show ¬ (12:Int)=10 by decide)] at h
  rw [if_neg (show ¬ (12:Int)=3 by decide)] at h
  rw [if_neg (show ¬ (12:Int)=5 by decide)] at h
  rw [if_neg (show ¬ (12:Int)=11 by decide)] at h
  rw [if_neg (show ¬ (12:Int)=7 by decide)] at h
  rw [if_neg (show ¬ (12:Int)=8 by decide)] at h
  rw [if_neg (show ¬ (12:Int)=6 by decide)] at h
  rw [if_pos (show (12:Int)=12 by decide)] at h
  obtain ⟨k,hk,h⟩:=Option.bind_eq_some_iff.1 h
  repeat (first | (refine Zr rfl rfl ?_) | (refine Zg rfl rfl ?_) | (refine Ze0 (Zig _ _ _ hk) rfl rfl ?_) | (refine Zv [_] νa (Zn3 k x e e' r r' hf h) rfl rfl rfl rfl rfl rfl ?_) | refine Zm rfl (by (conv=>lhs;whnf);try rfl) ?_ | refine Zz rfl rfl rfl ?_ | refine Zq rfl (by (conv=>lhs;whnf);try rfl) ?_ | refine ZQ rfl rfl rfl rfl (by (conv=>lhs;whnf);try rfl) ?_ | refine Zc ?_ | refine Zh ?_ | refine Za ?_ | refine Zw ?_ | refine ZO ?_)
  exact Zbn (.inr rfl) (νc _ _) [_] [] rfl rfl trivial rfl rfl
 by_cases h4:tk=4
 ·subst h4
  rw [if_neg (show ¬ ((4:Int)=1∨(4:Int)=2) by decide)] at h
  rw [if_neg (show ¬ (4:Int)=9 by decide)] at h
  rw [if_neg (show ¬ (4:Int)=10 by decide)] at h
  rw [if_neg (show ¬ (4:Int)=3 by decide)] at h
  rw [if_neg (show ¬ (4:Int)=5 by decide)] at h
  rw [if_neg (show ¬ (4:Int)=11 by decide)] at h
  rw [if_neg (show ¬ (4:Int)=7 by decide)] at h
  rw [if_neg (show ¬ (4:Int)=8 by decide)] at h
  rw [if_neg (show ¬ (4:Int)=6 by decide)] at h
  rw [if_neg (show ¬ (4:Int)=12 by decide)] at h
  rw [if_pos (show (4:Int)=4 by decide)] at h
  repeat (first | (refine Zr rfl rfl ?_) | (refine Zg rfl rfl ?_) | (refine Zv [_] νa (ZkN _ x.size e e' r r' hf h) rfl rfl rfl rfl rfl rfl ?_) | refine Zm rfl (by (conv=>lhs;whnf);try rfl) ?_ | refine Zq rfl (by (conv=>lhs;whnf);try rfl) ?_ | refine ZQ rfl rfl rfl rfl (by (conv=>lhs;whnf);try rfl) ?_ | refine Ze8 Tryz.underlying9 rfl rfl ?_ | refine Zc ?_ | refine Zh ?_ | refine Za ?_ | refine Zw ?_ | refine ZO ?_)
  exact Zbn (.inr rfl) (νc _ _) [_] [] rfl rfl trivial rfl rfl
 rw [if_neg (fun q:tk=1∨tk=2=>q.elim h1 h2)] at h
 rw [if_neg h9] at h
 rw [if_neg h10] at h
 rw [if_neg h3] at h
 rw [if_neg h5] at h
 rw [if_neg h11] at h
 rw [if_neg h7] at h
 rw [if_neg h8] at h
 rw [if_neg h6] at h
 rw [if_neg h12] at h
 rw [if_neg h4] at h
 injection h with h
 injection h with q1 q2
 subst q1 q2
 rw [decide_eq_false h1]
 repeat (first | (refine Zg rfl rfl ?_) | refine Zq rfl (by (conv=>lhs;whnf);try rfl) ?_ | refine ZQ rfl rfl rfl rfl (by (conv=>lhs;whnf);try rfl) ?_ | refine Zc ?_ | refine Za ?_)
 rw [decide_eq_false h2]
 repeat (first | (refine Zg rfl rfl ?_) | refine Zq rfl (by (conv=>lhs;whnf);try rfl) ?_ | refine ZQ rfl rfl rfl rfl (by (conv=>lhs;whnf);try rfl) ?_ | refine Zc ?_ | refine Zh ?_ | refine Za ?_)
 rw [decide_eq_false h9]
 repeat (first | (refine Zg rfl rfl ?_) | refine Zq rfl (by (conv=>lhs;whnf);try rfl) ?_ | refine ZQ rfl rfl rfl rfl (by (conv=>lhs;whnf);try rfl) ?_ | refine Zc ?_ | refine Zh ?_ | refine Za ?_)
 rw [decide_eq_false h10]
 repeat (first | (refine Zg rfl rfl ?_) | refine Zq rfl (by (conv=>lhs;whnf);try rfl) ?_ | refine ZQ rfl rfl rfl rfl (by (conv=>lhs;whnf);try rfl) ?_ | refine Zc ?_ | refine Zh ?_ | refine Za ?_)
 rw [decide_eq_false h3]
 repeat (first | (refine Zg rfl rfl ?_) | refine Zq rfl (by (conv=>lhs;whnf);try rfl) ?_ | refine ZQ rfl rfl rfl rfl (by (conv=>lhs;whnf);try rfl) ?_ | refine Zc ?_ | refine Zh ?_ | refine Za ?_)
 rw [decide_eq_false h5]
 repeat (first | (refine Zg rfl rfl ?_) | refine Zq rfl (by (conv=>lhs;whnf);try rfl) ?_ | refine ZQ rfl rfl rfl rfl (by (conv=>lhs;whnf);try rfl) ?_ | refine Zc ?_ | refine Zh ?_ | refine Za ?_)
 rw [decide_eq_false h11]
 repeat (first | (refine Zg rfl rfl ?_) | refine Zq rfl (by (conv=>lhs;whnf);try rfl) ?_ | refine ZQ rfl rfl rfl rfl (by (conv=>lhs;whnf);try rfl) ?_ | refine Zc ?_ | refine Zh ?_ | refine Za ?_)
 rw [decide_eq_false h7]
 repeat (first | (refine Zg rfl rfl ?_) | refine Zq rfl (by (conv=>lhs;whnf);try rfl) ?_ | refine ZQ rfl rfl rfl rfl (by (conv=>lhs;whnf);try rfl) ?_ | refine Zc ?_ | refine Zh ?_ | refine Za ?_)
 rw [decide_eq_false h8]
 repeat (first | (refine Zg rfl rfl ?_) | refine Zq rfl (by (conv=>lhs;whnf);try rfl) ?_ | refine ZQ rfl rfl rfl rfl (by (conv=>lhs;whnf);try rfl) ?_ | refine Zc ?_ | refine Zh ?_ | refine Za ?_)
 rw [decide_eq_false h6]
 repeat (first | (refine Zg rfl rfl ?_) | refine Zq rfl (by (conv=>lhs;whnf);try rfl) ?_ | refine ZQ rfl rfl rfl rfl (by (conv=>lhs;whnf);try rfl) ?_ | refine Zc ?_ | refine Zh ?_ | refine Za ?_)
 rw [decide_eq_false h12]
 repeat (first | (refine Zg rfl rfl ?_) | refine Zq rfl (by (conv=>lhs;whnf);try rfl) ?_ | refine ZQ rfl rfl rfl rfl (by (conv=>lhs;whnf);try rfl) ?_ | refine Zc ?_ | refine Zh ?_ | refine Za ?_)
 rw [decide_eq_false h4]
 repeat (first | (refine Zg rfl rfl ?_) | refine Zy ?_ | refine Zw ?_ | refine ZO ?_)
 exact Zbn (.inr rfl) νa [_] [] rfl rfl trivial rfl rfl
def νp (k:Nat):Gen:=(1,k)
theorem Zmd (ν:Nat→Gen) {e:El} {r:List El} (lits:List (Nat×Option (Gen×VObj))) {tm tm':List (Nat×PV)} {ob:List (Nat×Option (Gen×VObj))} {ng:Nat} (h1:Zfi (σf fun k=>(k,ν k)) tm tm') (hob:ob=lits++somes (stP ν e r)) (hl:(lits.all fun q=>!Zbd q.1)=true) :
  Shift (mkS tm ob ng) (mkS tm' (somes (stP νp e r)) 2):=
 ZeS _ h1 (ZjU (ν:=νp) (ν':=ν) (fun _ _=>rfl) e r) (by rw [hob];exact Za2 hl) (ZaM _ _ _)
def Zcd (s:ByteArray):List Tok→El→List El→Option (El×List El)
 | [],e,r=>some (e,r)
 | t::l,e,r=>(Zin s t e r).bind fun q=>Zcd s l q.1 q.2
theorem Zij {s:ByteArray}:∀ {l:List Tok} {e e':El} {r r':List El},fits e r→Zcd s l e r=some (e',r')→fits e' r'
 | [],e,e',r,r',hf,h=>by injection h with h;injection h with h1 h2;rw [← h1,← h2];exact hf
 | t::l,e,e',r,r',hf,h=>by
   obtain ⟨⟨e1,r1⟩,h1,h⟩:=Option.bind_eq_some_iff.1 h
   exact Zij (Zjz hf h1) h
def ZmS (s:ByteArray):Option (List (List PV)×Int):=(Zem s).bind fun q=>if q.2=0 then (if q.1.length≤4611686018427387904 then (Zcd s q.1 ⟨0,0,0,[],none⟩ []).bind fun p=>(Zd6 p.2.length p.1 p.2).map fun z=>(z.1.list,0) else none) else some ([],q.2)
abbrev startf (k:Nat):Nat×Gen:=if k=0 then (21,(4,4)) else if k=1000 then (19,(4,2)) else if k=1001 then (18,(4,1)) else if k=1002 then (60,(6,0)) else (61,(7,0))
set_option maxRecDepth 100000 in
set_option maxHeartbeats 2000000 in
theorem ZqV (s:ByteArray) (res:List (List PV)×Int) (h:ZmS s=some res):Zn Tryz.prog 29 [.str s] (.tup [.sl res.1,.int .i64 res.2]):=by
 obtain ⟨⟨l,e0⟩,hq,h⟩:=Option.bind_eq_some_iff.1 h
 refine Zbw mix Tryz.func29 (by kernel_rfl) rfl (by kernel_rfl) ?_
 repeat (first | (refine Ze0 (ZkX _ _ hq) rfl rfl ?_) | refine Zm rfl (by (conv=>lhs;whnf);try rfl) ?_ | refine Zq rfl (by (conv=>lhs;whnf);try rfl) ?_ | refine ZQ rfl rfl rfl rfl (by (conv=>lhs;whnf);try rfl) ?_ | refine Zer rfl rfl rfl ?_ | refine Zc ?_ | refine Zh ?_ | refine Za ?_)
 dsimp only at h
 by_cases he:e0=0
 rotate_left
 ·rw [if_neg he] at h
  injection h with h
  subst h
  rw [decide_eq_false he]
  repeat (first | (refine Zr rfl rfl ?_) | refine Zm rfl (by (conv=>lhs;whnf);try rfl) ?_ | refine Zq rfl (by (conv=>lhs;whnf);try rfl) ?_ | refine Zc ?_ | refine Zh ?_ | refine Za ?_ | refine Za3 ?_)
  exact Zea rfl rfl rfl
 rw [if_pos he] at h
 by_cases hl:l.length≤4611686018427387904
 rotate_left
 ·rw [if_neg hl] at h
  cases h
 rw [if_pos hl] at h
 obtain ⟨⟨e1,r1⟩,hp,h⟩:=Option.bind_eq_some_iff.1 h
 obtain ⟨⟨e2,r2⟩,hz,h⟩:=Option.map_eq_some_iff.1 h
 subst h
 rw [decide_eq_true he]
 have hf0:fits ⟨0,0,0,[],none⟩ []:=⟨Nat.zero_le _,fun x hx=>by
  rw [List.mem_singleton.1 hx]
  exact ⟨fun q hq=>(by cases hq),Nat.zero_le _⟩⟩
 have hf1:=Zij hf0 hp
 repeat (first | (refine Zg rfl rfl ?_) | (refine Zh2 rfl rfl rfl rfl (Nat.le_of_ble_eq_true rfl) rfl ?_) | refine Zm rfl (by (conv=>lhs;whnf);try rfl) ?_ | refine Zq rfl (by (conv=>lhs;whnf);try rfl) ?_ | refine Zgs rfl rfl ?_ | refine Zjc rfl (by (conv=>lhs;whnf);try rfl) (by (conv=>lhs;whnf);try rfl) (by rfl) ?_ | refine Zbm rfl rfl ?_ | refine Zc ?_ | refine Zh ?_ | refine Za ?_ | refine Zag ?_ | refine Zy ?_)
 refine ZE (fun (a:Nat×El×List El) _=>mkS [(0,.str s),(6,.ptr 0 (1,0) 0),(22,.sl (l.map Tok.cs)),(23,.int .i64 ((l.map Tok.cs).length:Int)),(24,.int .i64 ((a.1:Nat):Int))] (somes (stP νp a.2.1 a.2.2)) 2) (fun a=>a.1≤l.length∧fits a.2.1 a.2.2∧Zcd s (l.drop a.1) a.2.1 a.2.2=some (e1,r1)) (fun a=>l.length - a.1) (0,⟨0,0,0,[],none⟩,[]) 2 ⟨Nat.zero_le _,hf0,hp⟩
  (Shift.trans (Zb8 18 60 3 78 5 rfl rfl rfl) (Shift.trans (Zb8 18 61 4 111 3 rfl rfl rfl) (Shift.trans (Zci (t:=61) rfl) (ZeS startf ⟨rfl,rfl,rfl,rfl,rfl,trivial⟩ rfl (Zk rfl (Zk rfl (Zk rfl (Zk rfl (Zk rfl (ZN _)))))) (by decide))))) (fun a ng hJ=>?_)
 obtain ⟨q,e3,r3⟩:=a
 obtain ⟨hqq,hf3,ht⟩:=hJ
 dsimp only at hqq hf3 ht ⊢
 repeat (first | refine ZQ rfl rfl rfl rfl (by (conv=>lhs;whnf);try rfl) ?_ | refine Zc ?_ | refine Zh ?_ | refine Za ?_)
 by_cases hlt:q<l.length
 ·refine Zr (by (conv=>lhs;whnf);try rfl) (by simp;omega) ?_
  rw [List.drop_eq_getElem_cons hlt] at ht
  obtain ⟨⟨e4,r4⟩,h4,ht⟩:=Option.bind_eq_some_iff.1 ht
  have hcs:(l.map Tok.cs)[q]? = some (Tok.cs l[q]):=by rw [List.getElem?_map,List.getElem?_eq_getElem hlt];rfl
  repeat (first | (refine Zdr rfl rfl rfl hcs rfl ?_) | (refine Zv [_,_] νp (ZtB s _ e3 e4 r3 r4 hf3 h4) rfl rfl rfl rfl rfl rfl ?_) | refine Zm rfl (by (conv=>lhs;whnf);try rfl) ?_ | refine Zz rfl rfl rfl ?_ | refine Zms rfl rfl (by omega) ?_ | refine ZcK rfl rfl ?_ | refine ZaG rfl rfl rfl (by (conv=>lhs;whnf);try rfl) (by (conv=>lhs;whnf);try rfl) (by rfl) (by rfl) (Nat.le_of_ble_eq_true rfl) (by (conv=>lhs;whnf);try rfl) ?_ | refine Zc ?_ | refine Zh ?_ | refine Za ?_ | refine Zag ?_ | refine Zy ?_ | refine Zw ?_)
  exact Zab (q+1,e4,r4) 2 ⟨by dsimp only;omega,Zjz hf3 h4,ht⟩ (by dsimp only;omega) (Zmd (νn (1,0) 4 3) [_,_] ⟨rfl,rfl,rfl,rfl,rfl,trivial⟩ rfl rfl)
 ·refine Zg (by (conv=>lhs;whnf);try rfl) (by simp;omega) ?_
  obtain rfl:q=l.length:=by omega
  rw [List.drop_length] at ht
  injection ht with ht
  injection ht with q1 q2
  subst q1 q2
  repeat (first | refine Zh ?_ | refine Zag ?_ | refine ZaX ?_)
  refine ZE (fun (a:El×List El) _=>mkS [(6,.ptr 0 (1,0) 0)] (somes (stP νp a.1 a.2)) 2) (fun a=>fits a.1 a.2∧Zd6 a.2.length a.1 a.2=some (e2,r2)) (fun a=>a.2.length) (e3,r3) 2 ⟨hf3,hz⟩ (Zmd νp [] ⟨rfl,trivial⟩ rfl rfl) (fun a ng hJ=>?_)
  obtain ⟨e5,r5⟩:=a
  obtain ⟨hf5,hft⟩:=hJ
  dsimp only at hf5 hft ⊢
  have hr5:=hf5.1
  repeat (first | (refine Za0 rfl rfl (ZbN _ _ _) ?_) | refine Zm rfl (by (conv=>lhs;whnf);try rfl) ?_ | refine Zz rfl rfl rfl ?_ | refine Zi rfl rfl ?_ | refine ZQ rfl rfl rfl rfl (by (conv=>lhs;whnf);try rfl) ?_ | refine Zaz rfl rfl ?_ | refine Zc ?_ | refine Zh ?_ | refine Za ?_)
  rcases r5 with _ | ⟨e6,r6⟩
  ·injection hft with hft
   injection hft with q1 q2
   subst q1 q2
   repeat (first | (refine Zg rfl rfl ?_) | (refine ZY [] νp (Zdb e5 [] (Nat.zero_le _)) rfl rfl rfl rfl rfl rfl ?_) | refine Zm rfl (by (conv=>lhs;whnf);try rfl) ?_ | refine Zz rfl rfl rfl ?_ | refine Zi rfl rfl ?_ | refine Zq rfl (by (conv=>lhs;whnf);try rfl) ?_ | refine Zaz rfl rfl ?_ | refine Zc ?_ | refine Zh ?_ | refine Za ?_ | refine Za3 ?_ | refine ZaX ?_)
   exact Zea rfl rfl rfl
  ·rw [show decide ((1:Int)<(((e6::r6).length+1:Nat):Int))=true from decide_eq_true (by simp;omega)]
   obtain ⟨e7,he7,hft⟩:=Option.bind_eq_some_iff.1 hft
   repeat (first | (refine Zr rfl rfl ?_) | (refine Zv [] νp (Zif e5 e6 e7 r6 (by simp at hr5;omega) (Zad (ZaC hf5)) he7) rfl rfl rfl rfl rfl rfl ?_) | refine Zm rfl (by (conv=>lhs;whnf);try rfl) ?_ | refine Zc ?_ | refine Za ?_ | refine Zag ?_ | refine Zy ?_ | refine Zw ?_ | refine ZO ?_)
   exact Zab (e7,r6) 2 ⟨Zdj hf5 he7,hft⟩ (by dsimp only;simp) (Zmd (νn (1,0) 3 1) [] ⟨rfl,trivial⟩ rfl rfl)
def ZcG (s:ByteArray):Option (List Node×Int):=(ZmS s).bind fun q=>(Zbb q.1).map fun l=>(l,q.2)
theorem Zkg (s:ByteArray) (r:List Node×Int) (h:ZcG s=some r):Zn Tryz.prog 29 [.str s] (.tup [.sl (List.map Node.cs r.1),.int .i64 r.2]):=by
 obtain ⟨q,hq,h⟩:=Option.bind_eq_some_iff.1 h
 obtain ⟨l,hl,h⟩:=Option.map_eq_some_iff.1 h
 subst h
 have:=ZqV s q hq
 rw [ZcO hl] at this
 exact this
end Go.Proofs.YtmgfammllddkhaaGreatDoor
namespace Go.Proofs.YtmgfammllddkhaaGreatDoor
open VL Go.RowKit
theorem Zsj (B b:Nat) (bs:List Value) (s:ByteArray) (w:World) (h:Lib.IsBuilderF 186 5 B b bs w) (hlen:bs.length+s.size≤140737488355328) (hBw:B≤w.heap.size) :
  Calls Tryz.prog 174 #[.pointer (some ⟨b,0,none⟩),.string s] w fun e w'=>e = .returned (.tuple #[.int .i64 s.size,.nilIface])∧(Lib.BuilderAtF 186 5 B b (.pointer (some ⟨b,0,none⟩)) (bs++Lib.strCells s) w'∧Below B w w'):=
 Any.Builder_WriteString_f (P:=Tryz.prog) (ρ:=Tryz.lays105_ren) { Tryz.lays105 with } Tryz.Builder_Extra_105 B b bs s w h hlen hBw
structure SlW where
 a:Option Addr
 n:Nat
 c:Nat
structure NodeW where
 kind:Int
 tag:Int
 text:ByteArray
 kids:SlW
 args:SlW
instance:Enc NodeW where
 k:=5
 R _ _ x cs:=cs = [.int .i64 x.kind,.int .i64 x.tag,.string x.text,.slice x.kids.a x.kids.n x.kids.c,.slice x.args.a x.args.n x.args.c]
 len h:=by rw [h];rfl
 one h:=by
  obtain rfl:=h
  intro u hu
  simp only [List.mem_cons,List.not_mem_nil,or_false] at hu
  rcases hu with rfl | rfl | rfl | rfl | rfl<;>rfl
 keep _ _ h:=h
 weak _ h:=h
def Ze1 (acc:List UInt8):List NodeW→Option (Option (List UInt8))
 | []=>some (some acc)
 | x::xs=>if x.kind=1∨x.kind=3 then (if acc.length+x.text.size≤140737488355328 then Ze1 (acc++x.text.data.toList) xs else none) else if x.kind=2 then Ze1 acc xs else some none
def Zm9:Option (List UInt8)→Value
 | some l=>.tuple #[.string ⟨l.toArray⟩,.bool true]
 | none=>.tuple #[.string ⟨#[]⟩,.bool false]
set_option maxRecDepth 100000 in
set_option maxHeartbeats 4000000 in
theorem Zpx (A:Option Addr) (n c:Nat) (xs:List NodeW) (r:Option (List UInt8)) (hr:Ze1 [] xs=some r) (w:World) (hS:SlR w A n c xs) :
  Calls Tryz.prog 117 #[.slice A n c] w fun e w'=>e = .returned (Zm9 r)∧Below w.heap.size w w':=by
 have HN:=Lib.hid hS.1
 have hle:=hS.le
 go_enter Tryz.func117,Tryz.ntmps117
 go_wp2
 go_loopw [9] (fun i wr=>∃ (q:Nat) (acc:List UInt8),q≤n∧i = .int .i64 q∧Below w.heap.size w wr∧Lib.IsBuilderF 186 5 w.heap.size w.heap.size (Lib.byteCells acc) wr∧Hid (Ze1 acc (xs.drop q)=some r)) (fun i _=>n - (intOf i).toNat)
 case atStart=>
  exact ⟨0,[],Nat.zero_le _,rfl,(Below.refl _ w).alloc (Nat.le_refl _) _,Lib.IsBuilderF.of (Lib.fresh_isBuilder 186 5 w),hr⟩
 case round=>
  obtain ⟨q,acc,hq,rfl,hbw,hI,hF⟩:=hrel
  have HW:=Lib.hid hbw
  clear hbw
  by_cases hlt:q<n
  ·obtain ⟨b,off,x,cs,hA,hbl,hx,hd,hR,hc⟩:=(SlR.mono HW.out hS).elem hlt
   obtain rfl:=hA
   have d0:wr.cell? ⟨b,off+q * 5,none⟩=some (.int .i64 x.kind):=by subst hR;exact hc 0 _ rfl
   have d1:wr.cell? ⟨b,off+q * 5+1,none⟩=some (.int .i64 x.tag):=by subst hR;exact hc 1 _ rfl
   have d2:wr.cell? ⟨b,off+q * 5+2,none⟩=some (.string x.text):=by subst hR;exact hc 2 _ rfl
   have d3:wr.cell? ⟨b,off+q * 5+3,none⟩=some (.slice x.kids.a x.kids.n x.kids.c):=by subst hR;exact hc 3 _ rfl
   have d4:wr.cell? ⟨b,off+q * 5+4,none⟩=some (.slice x.args.a x.args.n x.args.c):=by subst hR;exact hc 4 _ rfl
   have HD:=Lib.hid hd
   have HX:=Lib.hid hx
   clear hx hd hR hc
   by_cases h13:x.kind=1∨x.kind=3
   ·have hfit:acc.length+x.text.size≤140737488355328∧Ze1 (acc++x.text.data.toList) (xs.drop (q+1))=some r:=by
     have e:=hF.out
     rw [HD.out] at e
     simp only [Ze1,if_pos h13] at e
     split at e
     ·exact ⟨‹_›,e⟩
     ·cases e
    have HI2:∀ o,Lib.IsBuilderF 186 5 w.heap.size w.heap.size (Lib.byteCells acc) (wr.alloc o):=fun o=>hI.alloc o
    rcases h13 with h13 | h13
    ·go_wp2_with (go_at_call 174;refine (Zsj w.heap.size w.heap.size _ x.text _ (HI2 _) (by rw [Lib.byteCells_length];exact hfit.1) (Nat.le_trans HW.out.size (by simp))).mono ?_)
     rintro e W1 ⟨rfl,h1,b1⟩
     go_wp2
     go_roundw
     case rel=>
      refine ⟨q+1,acc++x.text.data.toList,by omega,by go_num,?_,?_,Lib.hid hfit.2⟩
      ·exact (Below.al HW.out _).trans b1
      ·rw [Lib.byteCells_append,← Lib.strCells_eq];exact Or.inr h1
     case measure=>simp [intOf];omega
    ·go_wp2_with (go_at_call 174;refine (Zsj w.heap.size w.heap.size _ x.text _ (HI2 _) (by rw [Lib.byteCells_length];exact hfit.1) (Nat.le_trans HW.out.size (by simp))).mono ?_)
     rintro e W1 ⟨rfl,h1,b1⟩
     go_wp2
     go_roundw
     case rel=>
      refine ⟨q+1,acc++x.text.data.toList,by omega,by go_num,?_,?_,Lib.hid hfit.2⟩
      ·exact (Below.al HW.out _).trans b1
      ·rw [Lib.byteCells_append,← Lib.strCells_eq];exact Or.inr h1
     case measure=>simp [intOf];omega
   ·by_cases h2:x.kind=2
    ·have hn2:Ze1 acc (xs.drop (q+1))=some r:=by
      have e:=hF.out
      rw [HD.out] at e
      simp only [Ze1,if_neg h13,if_pos h2] at e
      exact e
     go_wp2
     go_roundw
     case rel=>exact ⟨q+1,acc,by omega,by go_num,Below.al HW.out _,hI.alloc _,Lib.hid hn2⟩
     case measure=>simp [intOf];omega
    ·have hn2:r=none:=by
      have e:=hF.out
      rw [HD.out] at e
      simp only [Ze1,if_neg h13,if_neg h2] at e
      exact (Option.some.inj e).symm
     subst hn2
     go_wp2
     exact bodyPost_ret (v:=Zm9 none) (by simp [results,Tryz.results117,go_sem, *];rfl) rfl ⟨rfl,Below.al HW.out _⟩
  ·have hz:r=some acc:=by
    have e:=hF.out
    rw [List.drop_eq_nil_of_le (by rw [← HN.out];omega)] at e
    exact (Option.some.inj e).symm
   subst hz
   go_wp2_with (go_at_call 176;refine (Tryz.Builder_String_any_f w.heap.size w.heap.size acc _ hI HW.out.size).mono ?_)
   rintro e W1 ⟨rfl,_,b1⟩
   go_wp2
   exact bodyPost_ret (v:=Zm9 (some acc)) (by simp [results,Tryz.results117,go_sem, *];rfl) rfl ⟨rfl,HW.out.trans b1⟩
def ZiF (acc:List UInt8):List Node→Option (Option (List UInt8))
 | []=>some (some acc)
 | x::xs=>if x.kind=1∨x.kind=3 then (if acc.length+x.text.size≤140737488355328 then ZiF (acc++x.text.data.toList) xs else none) else if x.kind=2 then ZiF acc xs else some none
theorem Zna:∀ (xs:List NodeW) (l:List Node) (acc:List UInt8),xs.length=l.length→(∀ (i:Nat) (x:NodeW) (y:Node),xs[i]? = some x→l[i]? = some y→x.kind=y.kind∧x.text=y.text)→Ze1 acc xs=ZiF acc l
 | [],[],acc,_,_=>rfl
 | x::xs,y::l,acc,hl,h=>by
   obtain ⟨h1,h2⟩:=h 0 x y rfl rfl
   have ih:=fun acc=>Zna xs l acc (by simpa using hl) (fun i a b ha hb=>h (i+1) a b ha hb)
   simp only [Ze1,ZiF,h1,h2,ih]
def Zga:Value→SlW
 | .slice A n c=>⟨A,n,c⟩
 | _=>⟨none,0,0⟩
theorem Zsk {x:Ctx} {els:List (List PV)} {v:Value} (h:Rep x (.sl els) v):v = .slice (Zga v).a (Zga v).n (Zga v).c:=by
 cases h
 rfl
theorem Zlp {x:Ctx} (hflt:∀ b o,x.F b o→b<x.W.heap.size) {L:List Node} {v:Value} (h:Rep x (.sl (L.map Node.cs)) v):∃ A n c xs,v = .slice A n c∧SlR x.W A n c xs∧∀ acc,Ze1 acc xs=ZiF acc L:=by
 generalize hels:(L.map Node.cs)=els at h
 cases h with
 | sl _ A n c k b off f hn hc hm hk hA hcell hh=>
   subst hels
   have hx:∀ (i:Nat) (y:NodeW),(L.mapIdx fun i nd=>(⟨nd.kind,nd.tag,nd.text,Zga (f i 3),Zga (f i 4)⟩:NodeW))[i]? = some y→∃ nd,L[i]? = some nd∧y=⟨nd.kind,nd.tag,nd.text,Zga (f i 3),Zga (f i 4)⟩:=fun i y hi=>by
    rw [List.getElem?_mapIdx] at hi
    cases hL:L[i]? with
    | none=>rw [hL] at hi;cases hi
    | some nd=>rw [hL] at hi;injection hi with hi;exact ⟨nd,rfl,hi.symm⟩
   refine ⟨A,n,c,L.mapIdx fun i nd=>(⟨nd.kind,nd.tag,nd.text,Zga (f i 3),Zga (f i 4)⟩:NodeW),rfl,⟨by simpa using hn,hc,hm,fun h0=>?_⟩,fun acc=>Zna _ _ _ (by simp) fun i y nd hi hd=>?_⟩
   ·have hL:0<L.length:=by rw [hn,List.length_map] at h0;exact h0
    have hk5:k=5:=by
     obtain ⟨s,hs⟩:∃ s,L[0]? = some s:=⟨_,List.getElem?_eq_getElem hL⟩
     exact (hk (Node.cs s) (List.mem_map.2 ⟨s,List.mem_of_getElem? hs,rfl⟩)).symm
    subst hk5
    have el:∀ i nd,L[i]? = some nd→(L.map Node.cs)[i]? = some (Node.cs nd):=fun i nd hi=>by rw [List.getElem?_map,hi];rfl
    obtain ⟨s0,hs0⟩:∃ s,L[0]? = some s:=⟨_,List.getElem?_eq_getElem hL⟩
    refine ⟨b,off,fun i=>[f i 0,f i 1,f i 2,f i 3,f i 4],hA h0,trivial,hflt _ _ (hcell 0 0 _ _ (el 0 s0 hs0) rfl).2.1,fun i y hi=>?_⟩
    obtain ⟨nd,hd,rfl⟩:=hx i y hi
    have e:=el i nd hd
    refine ⟨?_,fun j u hj=>?_⟩
    ·have r0:=hh i 0 _ _ e rfl
     have r1:=hh i 1 _ _ e rfl
     have r2:=hh i 2 _ _ e rfl
     have r3:=Zsk (hh i 3 _ _ e rfl)
     have r4:=Zsk (hh i 4 _ _ e rfl)
     have q0:f i 0 = .int .i64 nd.kind:=by generalize f i 0=u at r0;cases r0;rfl
     have q1:f i 1 = .int .i64 nd.tag:=by generalize f i 1=u at r1;cases r1;rfl
     have q2:f i 2 = .string nd.text:=by generalize f i 2=u at r2;cases r2;rfl
     show [f i 0,f i 1,f i 2,f i 3,f i 4] = [.int .i64 nd.kind,.int .i64 nd.tag,.string nd.text,.slice (Zga (f i 3)).a (Zga (f i 3)).n (Zga (f i 3)).c,.slice (Zga (f i 4)).a (Zga (f i 4)).n (Zga (f i 4)).c]
     rw [q0,q1,q2,← r3,← r4]
    ·match j,hj with
     | 0,hj=>injection hj with hj;subst hj;exact (hcell i 0 _ _ e rfl).2.2
     | 1,hj=>injection hj with hj;subst hj;exact (hcell i 1 _ _ e rfl).2.2
     | 2,hj=>injection hj with hj;subst hj;exact (hcell i 2 _ _ e rfl).2.2
     | 3,hj=>injection hj with hj;subst hj;exact (hcell i 3 _ _ e rfl).2.2
     | 4,hj=>injection hj with hj;subst hj;exact (hcell i 4 _ _ e rfl).2.2
     | j+5,hj=>simp at hj
   ·obtain ⟨nd',h1,rfl⟩:=hx i y hi
    rw [hd] at h1
    injection h1 with h1
    subst h1
    exact ⟨rfl,rfl⟩
def Zg4 (l:List Node):Option (ByteArray×Bool):=match ZiF [] l with
 | some (some t)=>some (⟨t.toArray⟩,true)
 | some none=>some (⟨#[]⟩,false)
 | none=>none
theorem Zuu {x:Ctx} (a:ByteArray) (c:Bool):Rep x (.tup [.str a,.bool c]) (.tuple #[.string a,.bool c]):=.tup _ _ rfl fun i p v hp hv=>by
 match i,hp,hv with
 | 0,hp,hv=>injection hp with hp;injection hv with hv;subst hp hv;exact .str _
 | 1,hp,hv=>injection hp with hp;injection hv with hv;subst hp hv;exact .bool _
 | i+2,hp,_=>simp at hp
theorem args1 {x:Ctx} {p:PV} {vs:Array Value} (h:Pre x [p] none vs):∃ v,vs = #[v]∧Rep x p v:=by
 obtain ⟨v,hv⟩:∃ v,vs = #[v]:=Array.size_eq_one_iff.1 h.size.symm
 exact ⟨v,hv,h.rep 0 _ _ rfl (by rw [hv];rfl)⟩
theorem Zlq (l:List Node) (r:ByteArray×Bool) (h:Zg4 l=some r):Zn Tryz.prog 117 [.sl (List.map Node.cs l)] (.tup [.str r.1,.bool r.2]):=by
 obtain ⟨o,ho,hv⟩:∃ o,ZiF [] l=some o∧Zm9 o = .tuple #[.string r.1,.bool r.2]:=by
  unfold Zg4 at h
  split at h
  ·cases h;exact ⟨_,‹_›,rfl⟩
  ·cases h;exact ⟨_,‹_›,rfl⟩
  ·cases h
 exact Zed (by kernel_rfl) rfl (fun x=>Zuu _ _) fun x vs hp _=>by
  obtain ⟨v,rfl,h1⟩:=args1 hp
  obtain ⟨A,n,c,xs,rfl,hS,he⟩:=Zlp hp.flt h1
  rw [← hv]
  exact Zpx A n c xs o ((he []).trans ho) x.W hS
end Go.Proofs.YtmgfammllddkhaaGreatDoor
set_option linter.unusedVariables false
set_option maxHeartbeats 4000000
set_option maxRecDepth 100000
namespace Go.Proofs.YtmgfammllddkhaaGreatDoor
open VL
def Zb5 (p0:List Node):Option (Title×Bool):=
 (Zg4 p0).bind fun r1=>
 (Zcf r1.1).bind fun r2=>
 letk (fun (x5:Bool)=>
  if x5 then
   (some ((⟨0,(⟨#[]⟩:ByteArray)⟩:Title),false):Option (Title×Bool))
  else
  (Zbs r2).bind fun r6=>
  if (!decide (r6.2=0)) then
   (some ((⟨0,(⟨#[]⟩:ByteArray)⟩:Title),false):Option (Title×Bool))
  else
  letk (fun (x8:Bool)=>
   letk (fun (x9:Int)=>
    (some ((⟨x9,r6.1.name⟩:Title),true):Option (Title×Bool))) fun k3=>
   if x8 then
    k3 3
   else
   k3 r6.1.space) fun k2=>
  if (decide (r6.1.space=0)) then
   (ZB r2 (⟨#[58]⟩:ByteArray)).bind fun r10=>
   k2 (!r10)
  else
  k2 false) fun k1=>
 if (!r1.2) then
  k1 true
 else
 (ZB r2 (⟨#[35]⟩:ByteArray)).bind fun r11=>
 if r11 then
  k1 true
 else
 (ZB r2 (⟨#[47]⟩:ByteArray)).bind fun r12=>
 k1 r12
theorem ZhM (p0:List Node) (r:Title×Bool) (h:Zb5 p0=some r):Zn Tryz.prog 67 [.sl (List.map Node.cs p0)] (.tup [r.1.pv,.bool r.2]):=by
 refine cF (fun r=>.tup [r.1.pv,.bool r.2]) h mix Tryz.func67 fun r h=>?_
 unfold Zb5 at h
 refine Zt ?_
 refine rg ?_
 refine rg ?_
 refine aC h (Zlq _) fun r1 h=>?_
 refine rg ?_
 refine aC h (ZfT _) fun r2 h=>?_
 refine jL h (fun x5=>mkS [(2,.ptr 2 (1,2) 0),(6,.str r2),(25,.bool x5)] [(2,some ((1,2),.box [.int .i64 0,.str (⟨#[]⟩:ByteArray)]))] 2) (fun k1 h=>?_) fun x5 h=>?_
 ·refine rg ?_
  refine kS 18 h rfl (fun h=>?_) fun h=>?_
  ·iterate 4 refine ZI rfl (Zt ?_)
   exact jn true h (sR [(2,1,0)])
  refine aC h (Zak _ _) fun r11 h=>?_
  refine kS 22 h rfl (fun h=>?_) fun h=>?_
  ·iterate 2 refine ZI rfl (Zt ?_)
   exact jn true h (sR [(2,1,0)])
  refine aC h (Zak _ _) fun r12 h=>?_
  exact jn r12 h (sR [(2,1,0)])
 refine cS h rfl (fun h=>?_) fun h=>?_
 ·refine rg ?_
  cases h
  exact rQ
 refine rg ?_
 refine aC h (Zfg _) fun r6 h=>?_
 refine rg ?_
 refine cS h rfl (fun h=>?_) fun h=>?_
 ·refine rg ?_
  cases h
  exact rQ
 refine jL h (fun x8=>mkS [(2,.ptr 2 (1,2) 0),(7,.ptr 7 (1,7) 0),(42,.bool x8)] [(2,some ((1,2),.box [.int .i64 0,.str (⟨#[]⟩:ByteArray)])),(7,some ((1,7),.box (Title.cs r6.1)))] 2) (fun k2 h=>?_) fun x8 h=>?_
 ·refine rg ?_
  refine kS 38 h rfl (fun h=>?_) fun h=>?_
  ·refine aC h (Zak _ _) fun r10 h=>?_
   exact jn (!r10) h (sR [(2,1,2),(7,2,5)])
  iterate 3 refine ZI rfl (Zt ?_)
  exact jn false h (sR [(2,1,2),(7,2,5)])
 refine jL h (fun x9=>mkS [(2,.ptr 2 (1,2) 0),(7,.ptr 7 (1,7) 0)] [(2,some ((1,2),.box [.int .i64 0,.str (⟨#[]⟩:ByteArray)])),(7,some ((1,7),.box [.int .i64 x9,.str r6.1.name]))] 2) (fun k3 h=>?_) fun x9 h=>?_
 ·refine cS h rfl (fun h=>?_) fun h=>?_
  ·refine rg ?_
   exact jn 3 h (sR [(2,1,2),(7,1,7)])
  exact jn r6.1.space h (sR [(2,1,2),(7,1,7)])
 refine rg ?_
 cases h
 exact rQ
def ZaI:Nat→Finder→(List Node)→Option Finder
 | 0,_,_=>none
 | mF+1,p0,p1=>
 Zbf Zdo (fun f7 ((x13,x14,x15):Int×(List Link)×(List Memb))=>
  if (decide (x13<(p1.length:Int))) then
   letk (fun (x33:List Link) (x34:List Memb)=>
    f7 ((w64 (x13+1)),x33,x34)) fun k9=>
   (atI p1 x13).bind fun e35=>
   if (decide (e35.kind=1)) then
    (ZW (⟨x14,x15⟩:Finder) e35.text).bind fun r36=>
    k9 r36.links r36.members
   else
   letk (fun (x37:Bool)=>
    if x37 then
     (Zbb e35.kids).bind fun l38=>
     (ZaI mF (⟨x14,x15⟩:Finder) l38).bind fun r39=>
     k9 r39.links r39.members
    else
    k9 x14 x15) fun k10=>
   if (decide (e35.kind=6)) then
    k10 (!decide (e35.tag=2))
   else
   k10 false
  else
  (some (⟨x14,x15⟩:Finder):Option Finder)) (0,p0.links,p0.members)
theorem ZgJ (mF:Nat):∀ (p0:Finder) (p1:List Node) (r:Finder),ZaI mF p0 p1=some r→ContractP Tryz.prog 30 [.ptr 0 (0,0) 0,.sl (List.map Node.cs p1)] 0 [.row 42 3 false (List.map Link.cs p0.links),.row 45 3 false (List.map Memb.cs p0.members)] (.tup []) [.row 42 3 false (List.map Link.cs r.links),.row 45 3 false (List.map Memb.cs r.members)]:=by
 induction mF with
 | zero=>intro p0 p1 r h;cases h
 | succ mF ihF=>
 intro p0 p1 r h
 refine Zf2 (R:=fun r=>.tup []) (O:=fun r=>[.row 42 3 false (List.map Link.cs r.links),.row 45 3 false (List.map Memb.cs r.members)]) h mix Tryz.func30 (by kernel_rfl) rfl (by kernel_rfl) rfl fun r h=>?_
 simp only [ZaI] at h
 refine Zt ?_
 refine rg ?_
 refine lM Node.cs p1 ?_
 refine bl ?_
 refine ZK h fun f7 mf7 hf7 h=>?_
 refine ZE (α:=Nat×(Int×(List Link)×(List Memb))) (fun a _=>mkS [(0,.ptr 0 (0,0) 0),(6,.sl (List.map Node.cs p1)),(7,.int .i64 (p1.length:Int)),(8,.int .i64 a.2.1)] [(0,some ((0,0),.box [.row 1000 (1,1000),.row 1001 (1,1001)])),(1000,some ((1,1000),.row 42 3 false (List.map Link.cs a.2.2.1))),(1001,some ((1,1001),.row 45 3 false (List.map Memb.cs a.2.2.2)))] 2) (fun a=>Zbf a.1 f7 a.2=some r) (fun a=>a.1) (mf7,0,p0.links,p0.members) 2 h (sR [(1000,0,1000),(1001,0,1001)]) (fun a _ h=>?_)
 obtain ⟨mf7,x13,x14,x15⟩:=a
 obtain ⟨mf7,rfl,h⟩:=ZL hf7 h
 dsimp only at h ⊢
 refine Zt ?_
 refine rg ?_
 refine cS h rfl (fun h=>?_) fun h=>?_
 ·refine ZcX h fun k9 hk9 h=>?_
  refine Zb7 (α:=(List Link)×(List Memb)) (fun a _=>mkS [(0,.ptr 0 (0,0) 0),(6,.sl (List.map Node.cs p1)),(7,.int .i64 (p1.length:Int)),(8,.int .i64 x13)] [(0,some ((0,0),.box [.row 1000 (1,1000),.row 1001 (1,1001)])),(1000,some ((1,1000),.row 42 3 false (List.map Link.cs a.1))),(1001,some ((1,1001),.row 45 3 false (List.map Memb.cs a.2)))] 2) (fun a=>k9 a.1 a.2=some r) (Zt ?_) (fun a _ h=>?_)
  ·refine bl ?_
   refine rg ?_
   refine aI Node.cs h fun e35 h=>?_
   refine bl ?_
   refine rg ?_
   refine cS h rfl (fun h=>?_) fun h=>?_
   ·refine rg ?_
    obtain ⟨r36,h22,h⟩:=bnd h
    refine Zgb (Ze5 _ _ _ h22) rfl rfl rfl rfl rfl rfl rfl rfl (Zt ?_)
    exact jn (r36.links,r36.members) h (sR [(1000,5,1000003),(1001,5,2000003)])
   refine jL h (fun x37=>mkS [(0,.ptr 0 (0,0) 0),(5,.ptr 5 (1,5) 0),(6,.sl (List.map Node.cs p1)),(7,.int .i64 (p1.length:Int)),(8,.int .i64 x13),(20,.bool x37)] [(0,some ((0,0),.box [.row 1000 (1,1000),.row 1001 (1,1001)])),(5,some ((1,5),.box [.int .i64 e35.kind,.int .i64 e35.tag,.str e35.text,.sl e35.kids,.sl e35.args])),(1000,some ((1,1000),.row 42 3 false (List.map Link.cs x14))),(1001,some ((1,1001),.row 45 3 false (List.map Memb.cs x15)))] 2) (fun k10 h=>?_) fun x37 h=>?_
   ·refine rg ?_
    refine kS 24 h rfl (fun h=>?_) fun h=>?_
    ·exact jn (!decide (e35.tag=2)) h (sR [(5,3,2),(1000,1,1000),(1001,1,1001)])
    iterate 3 refine ZI rfl (Zt ?_)
    exact jn false h (sR [(5,3,2),(1000,1,1000),(1001,1,1001)])
   refine cS h rfl (fun h=>?_) fun h=>?_
   ·refine rg ?_
    obtain ⟨l38,h23,h⟩:=bnd h
    refine Ztq 31 (ZcO h23) rfl (Zt ?_)
    obtain ⟨r39,h24,h⟩:=bnd h
    refine Zgb (ihF _ _ _ h24) rfl rfl rfl rfl rfl rfl rfl rfl (Zt ?_)
    exact jn (r39.links,r39.members) h (sR [(1000,2,1000003),(1001,2,2000003)])
   exact jn (x14,x15) h (sR [(1000,1,1000),(1001,1,1001)])
  obtain ⟨x33,x34⟩:=a
  subst hk9
  dsimp only at h ⊢
  refine Zt ?_
  refine rg ?_
  exact rn (mf7,(w64 (x13+1)),x33,x34) h (sR [(1000,1,1000),(1001,1,1001)])
 cases h
 exact Zk2 rfl rfl rfl rfl rfl rfl
def Zp:Nat→Finder→(List Node)→Option Finder
 | 0,_,_=>none
 | mF+1,p0,p1=>
 Zbf Zdo (fun f15 ((x93,x94,x95):Int×(List Link)×(List Memb))=>
  if (decide (x93<(p1.length:Int))) then
   letk (fun (x233:List Link) (x234:List Memb)=>
    f15 ((w64 (x93+1)),x233,x234)) fun k19=>
   (atI p1 x93).bind fun e235=>
   letk (fun (x236:Bool)=>
    if x236 then
     k19 x94 x95
    else
    letk (fun (x240:List Link)=>
     (Zbb e235.kids).bind fun l241=>
     (Zp mF (⟨x240,x95⟩:Finder) l241).bind fun r242=>
     (ZjL e235.args).bind fun l243=>
     Zbf Zdo (fun f22 ((x254,x255,x256):Int×(List Link)×(List Memb))=>
      if (decide (x254<(l243.length:Int))) then
       (atI l243 x254).bind fun e272=>
       (Zbb e272.name).bind fun l273=>
       (Zp mF (⟨x255,x256⟩:Finder) l273).bind fun r274=>
       (Zbb e272.value).bind fun l275=>
       (Zp mF r274 l275).bind fun r276=>
       f22 ((w64 (x254+1)),r276.links,r276.members)
      else
      k19 x255 x256) (0,r242.links,r242.members)) fun k21=>
    if (decide (e235.kind=4)) then
     (Zbb e235.kids).bind fun l277=>
     (Zb5 l277).bind fun r278=>
     if r278.2 then
      (Zjs 32 x94 [(⟨2,r278.1⟩:Link)]).bind fun l279=>
      k21 l279
     else
     k21 x94
    else
    k21 x94) fun k20=>
   if (decide (e235.kind=6)) then
    k20 (decide (e235.tag=2))
   else
   k20 false
  else
  (some (⟨x94,x95⟩:Finder):Option Finder)) (0,p0.links,p0.members)
theorem ZeB (mF:Nat):∀ (p0:Finder) (p1:List Node) (r:Finder),Zp mF p0 p1=some r→ContractP Tryz.prog 31 [.ptr 0 (0,0) 0,.sl (List.map Node.cs p1)] 0 [.row 42 3 false (List.map Link.cs p0.links),.row 45 3 false (List.map Memb.cs p0.members)] (.tup []) [.row 42 3 false (List.map Link.cs r.links),.row 45 3 false (List.map Memb.cs r.members)]:=by
 induction mF with
 | zero=>intro p0 p1 r h;cases h
 | succ mF ihF=>
 intro p0 p1 r h
 refine Zf2 (R:=fun r=>.tup []) (O:=fun r=>[.row 42 3 false (List.map Link.cs r.links),.row 45 3 false (List.map Memb.cs r.members)]) h mix Tryz.func31 (by kernel_rfl) rfl (by kernel_rfl) rfl fun r h=>?_
 simp only [Zp] at h
 refine Zt ?_
 refine rg ?_
 refine lM Node.cs p1 ?_
 refine bl ?_
 refine ZK h fun f15 mf15 hf15 h=>?_
 refine ZE (α:=Nat×(Int×(List Link)×(List Memb))) (fun a _=>mkS [(0,.ptr 0 (0,0) 0),(10,.sl (List.map Node.cs p1)),(11,.int .i64 (p1.length:Int)),(12,.int .i64 a.2.1)] [(0,some ((0,0),.box [.row 1000 (1,1000),.row 1001 (1,1001)])),(1000,some ((1,1000),.row 42 3 false (List.map Link.cs a.2.2.1))),(1001,some ((1,1001),.row 45 3 false (List.map Memb.cs a.2.2.2)))] 2) (fun a=>Zbf a.1 f15 a.2=some r) (fun a=>a.1) (mf15,0,p0.links,p0.members) 2 h (sR [(1000,0,1000),(1001,0,1001)]) (fun a _ h=>?_)
 obtain ⟨mf15,x93,x94,x95⟩:=a
 obtain ⟨mf15,rfl,h⟩:=ZL hf15 h
 dsimp only at h ⊢
 refine Zt ?_
 refine rg ?_
 refine cS h rfl (fun h=>?_) fun h=>?_
 ·refine ZcX h fun k19 hk19 h=>?_
  refine Zb7 (α:=(List Link)×(List Memb)) (fun a _=>mkS [(0,.ptr 0 (0,0) 0),(10,.sl (List.map Node.cs p1)),(11,.int .i64 (p1.length:Int)),(12,.int .i64 x93)] [(0,some ((0,0),.box [.row 1000 (1,1000),.row 1001 (1,1001)])),(1000,some ((1,1000),.row 42 3 false (List.map Link.cs a.1))),(1001,some ((1,1001),.row 45 3 false (List.map Memb.cs a.2)))] 2) (fun a=>k19 a.1 a.2=some r) (Zt ?_) (fun a _ h=>?_)
  ·refine bl ?_
   refine rg ?_
   refine aI Node.cs h fun e235 h=>?_
   refine jL h (fun x236=>mkS [(0,.ptr 0 (0,0) 0),(5,.ptr 5 (1,5) 0),(10,.sl (List.map Node.cs p1)),(11,.int .i64 (p1.length:Int)),(12,.int .i64 x93),(23,.bool x236)] [(0,some ((0,0),.box [.row 1000 (1,1000),.row 1001 (1,1001)])),(5,some ((1,5),.box [.int .i64 e235.kind,.int .i64 e235.tag,.str e235.text,.sl e235.kids,.sl e235.args])),(1000,some ((1,1000),.row 42 3 false (List.map Link.cs x94))),(1001,some ((1,1001),.row 45 3 false (List.map Memb.cs x95)))] 2) (fun k20 h=>?_) fun x236 h=>?_
   ·refine rg ?_
    refine kS 19 h rfl (fun h=>?_) fun h=>?_
    ·exact jn (decide (e235.tag=2)) h (sR [(5,3,2),(1000,1,1000),(1001,1,1001)])
    iterate 3 refine ZI rfl (Zt ?_)
    exact jn false h (sR [(5,3,2),(1000,1,1000),(1001,1,1001)])
   refine cS h rfl (fun h=>?_) fun h=>?_
   ·exact jn (x94,x95) h (sR [(1000,1,1000),(1001,1,1001)])
   refine rg ?_
   refine jL h (fun x240=>mkS [(0,.ptr 0 (0,0) 0),(5,.ptr 5 (1,5) 0),(10,.sl (List.map Node.cs p1)),(11,.int .i64 (p1.length:Int)),(12,.int .i64 x93)] [(0,some ((0,0),.box [.row 1000 (1,1000),.row 1001 (1,1001)])),(5,some ((1,5),.box [.int .i64 e235.kind,.int .i64 e235.tag,.str e235.text,.sl e235.kids,.sl e235.args])),(1000,some ((1,1000),.row 42 3 false (List.map Link.cs x240))),(1001,some ((1,1001),.row 45 3 false (List.map Memb.cs x95)))] 2) (fun k21 h=>?_) fun x240 h=>?_
   ·refine cS h rfl (fun h=>?_) fun h=>?_
    ·refine rg ?_
     obtain ⟨l277,h238,h⟩:=bnd h
     refine Ztq 29 (ZcO h238) rfl (Zt ?_)
     refine aC h (ZhM _) fun r278 h=>?_
     refine rg ?_
     refine cS h rfl (fun h=>?_) fun h=>?_
     ·refine rg ?_
      refine ZcT (M:=([(⟨2,r278.1⟩:Link)]:List Link)) (f:=Link.cs) rfl rfl rfl rfl (Nat.le_of_ble_eq_true rfl) rfl (Zt ?_)
      refine pR Link.cs h fun l279 h=>?_
      exact jn l279 h (sR [(5,1,5),(1000,5,8),(1001,1,1001)])
     exact jn x94 h (sR [(5,1,5),(1000,1,1000),(1001,1,1001)])
    exact jn x94 h (sR [(5,1,5),(1000,1,1000),(1001,1,1001)])
   refine rg ?_
   obtain ⟨l241,h205,h⟩:=bnd h
   refine Ztq 47 (ZcO h205) rfl (Zt ?_)
   obtain ⟨r242,h206,h⟩:=bnd h
   refine Zgb (ihF _ _ _ h206) rfl rfl rfl rfl rfl rfl rfl rfl (Zt ?_)
   refine rg ?_
   obtain ⟨l243,h207,h⟩:=bnd h
   refine Ztq 50 (ZpO h207) rfl (Zt ?_)
   refine lM Arg.cs l243 ?_
   refine bl ?_
   refine ZK h fun f22 mf22 hf22 h=>?_
   refine ZE (α:=Nat×(Int×(List Link)×(List Memb))) (fun a _=>mkS [(0,.ptr 0 (0,0) 0),(10,.sl (List.map Node.cs p1)),(11,.int .i64 (p1.length:Int)),(12,.int .i64 x93),(50,.sl (List.map Arg.cs l243)),(51,.int .i64 (l243.length:Int)),(52,.int .i64 a.2.1)] [(0,some ((0,0),.box [.row 1000 (1,1000),.row 1001 (1,1001)])),(1000,some ((1,1000),.row 42 3 false (List.map Link.cs a.2.2.1))),(1001,some ((1,1001),.row 45 3 false (List.map Memb.cs a.2.2.2)))] 2) (fun a=>Zbf a.1 f22 a.2=some r) (fun a=>a.1) (mf22,0,r242.links,r242.members) 2 h (sR [(1000,2,1000003),(1001,2,2000003)]) (fun a _ h=>?_)
   obtain ⟨mf22,x254,x255,x256⟩:=a
   obtain ⟨mf22,rfl,h⟩:=ZL hf22 h
   dsimp only at h ⊢
   refine Zt ?_
   refine rg ?_
   refine cS h rfl (fun h=>?_) fun h=>?_
   ·refine bl ?_
    refine rg ?_
    refine aI Arg.cs h fun e272 h=>?_
    refine rg ?_
    obtain ⟨l273,h234,h⟩:=bnd h
    refine Ztq 58 (ZcO h234) rfl (Zt ?_)
    obtain ⟨r274,h235,h⟩:=bnd h
    refine Zgb (ihF _ _ _ h235) rfl rfl rfl rfl rfl rfl rfl rfl (Zt ?_)
    refine rg ?_
    obtain ⟨l275,h236,h⟩:=bnd h
    refine Ztq 62 (ZcO h236) rfl (Zt ?_)
    obtain ⟨r276,h237,h⟩:=bnd h
    refine Zgb (ihF _ _ _ h237) rfl rfl rfl rfl rfl rfl rfl rfl (Zt ?_)
    refine rg ?_
    exact rn (mf22,(w64 (x254+1)),r276.links,r276.members) h (sR [(1000,5,1000003),(1001,5,2000003)])
   exact jn (x255,x256) h (sR [(1000,1,1000),(1001,1,1001)])
  obtain ⟨x233,x234⟩:=a
  subst hk19
  dsimp only at h ⊢
  refine Zt ?_
  refine rg ?_
  exact rn (mf15,(w64 (x93+1)),x233,x234) h (sR [(1000,1,1000),(1001,1,1001)])
 cases h
 exact Zk2 rfl rfl rfl rfl rfl rfl
def Zkw (m:Nat) (f:Finder) (n:Node):Option Finder:=
 if n.kind=1 then ZW f n.text
 else if n.kind=6∧¬ n.tag=2 then (Zbb n.kids).bind fun l=>ZaI m f l
 else some f
def Zg5 {α β:Type} (step:β→α→Option β):List α→β→Option β
 | [],c=>some c
 | x::l,c=>(step c x).bind fun c'=>Zg5 step l c'
theorem Zls {α β:Type} (step:β→α→Option β):∀ (l:List α) (c:β),goL (fun e c k=>(step c e).bind k) (fun c=>some c) l c=Zg5 step l c
 | [],c=>rfl
 | x::l,c=>by
   show ((step c x).bind fun c'=>goL (fun e c k=>(step c e).bind k) (fun c=>some c) l c')=_
   unfold Zg5
   congr 1
   funext c'
   exact Zls step l c'
theorem ZpA {α:Type} {l:List α} {n:Nat} {e:α} (h:l[n]? = some e):atI l (n:Int)=some e:=by
 unfold atI
 rw [if_pos (by omega),Int.toNat_natCast,h]
theorem Zrx (m:Nat) (f:Finder) (l:List Node) (hl:l.length≤4611686018427387900):ZaI (m+1) f l=Zg5 (Zkw m) l f:=by
 rw [← Zls]
 simp only [ZaI]
 refine Zrc l (fun n (c:Finder)=>((n:Int),c.links,c.members)) _ _ hl f (fun n e rec c he hn=>?_) (fun rec c=>?_)
 ·have hlt:=(List.getElem?_eq_some_iff.1 he).1
  dsimp only
  rw [if_pos (decide_eq_true (show (n:Int)<(l.length:Int) by omega)),ZpA he]
  have hw:w64 ((n:Int)+1)=((n+1:Nat):Int):=by rw [ZaH (by omega) (by omega)];rfl
  simp only [letk,Option.bind_some,hw,Zkw]
  by_cases h1:e.kind=1
  ·rw [if_pos (decide_eq_true h1),if_pos h1]
  ·rw [if_neg (by rw [decide_eq_false h1];decide),if_neg h1]
   by_cases h6:e.kind=6
   ·rw [if_pos (decide_eq_true h6)]
    by_cases h2:e.tag=2
    ·rw [decide_eq_true h2,if_neg (by decide),if_neg (fun h=>h.2 h2)]
     rfl
    ·rw [decide_eq_false h2,if_pos (by decide),if_pos ⟨h6,h2⟩]
     cases Zbb e.kids with
     | none=>rfl
     | some k=>rfl
   ·rw [if_neg (by rw [decide_eq_false h6];decide),if_neg (by decide),if_neg (fun h=>h6 h.1)]
    rfl
 ·dsimp only
  rw [if_neg (by rw [decide_eq_false (by omega)];decide)]
def ZiG (m:Nat) (f:Finder) (a:Arg):Option Finder:=(Zbb a.name).bind fun l=>(Zp m f l).bind fun f=>(Zbb a.value).bind fun l=>Zp m f l
def Zkx (f:Finder) (n:Node):Option Finder:=
 if n.kind=4 then (Zbb n.kids).bind fun l=>(Zb5 l).bind fun r=>if r.2=true then (Zjs 32 f.links [(⟨2,r.1⟩:Link)]).map fun l=>⟨l,f.members⟩ else some f
 else some f
def Zgx (m:Nat) (f:Finder) (n:Node):Option Finder:=
 if n.kind=6∧n.tag=2 then some f
 else (Zkx f n).bind fun f=>(Zbb n.kids).bind fun l=>(Zp m f l).bind fun f=>(ZjL n.args).bind fun l=>if l.length≤4611686018427387900 then Zg5 (ZiG m) l f else none
theorem ZpB {α:Type} {l:List α} {n:Nat} (h:n<l.length):∃ e,l[n]? = some e∧l.drop n=e::l.drop (n+1):=⟨_,List.getElem?_eq_getElem h,List.drop_eq_getElem_cons h⟩
theorem ZsV {β:Type} {m:Nat} {l:List Arg} {c2 c':Finder} {k:List Link→List Memb→Option β} {R:β→Prop} (hl:l.length≤4611686018427387900) (h:Zg5 (ZiG m) l c2=some c') (hk:Tot (k c'.links c'.members) R) :
  Tot (Zbf Zdo (fun f22 ((x254,x255,x256):Int×(List Link)×(List Memb))=>
   if (decide (x254<(l.length:Int))) then
    (atI l x254).bind fun e272=>
    (Zbb e272.name).bind fun l273=>
    (Zp m (⟨x255,x256⟩:Finder) l273).bind fun r274=>
    (Zbb e272.value).bind fun l275=>
    (Zp m r274 l275).bind fun r276=>
    f22 ((w64 (x254+1)),r276.links,r276.members)
   else
   k x255 x256) (0,c2.links,c2.members)) R:=by
 refine Zac (fun a=>∃ (n:Nat) (c:Finder),a=((n:Int),c.links,c.members)∧n≤l.length∧Zg5 (ZiG m) (l.drop n) c=some c') (fun a=>l.length - a.1.toNat) ⟨0,c2,rfl,Nat.zero_le _,h⟩ (by dsimp only;omega) ?_
 rintro a rec ⟨n,c,rfl,hn,hc⟩ ih
 dsimp only at ih ⊢
 refine Zj (fun hlt=>?_) (fun hge=>?_)
 ·obtain ⟨e,he,hd⟩:=ZpB (show n<l.length by omega)
  rw [hd] at hc
  obtain ⟨c1,h1,h2⟩:=Option.bind_eq_some_iff.1 hc
  obtain ⟨l1,h3,h1⟩:=Option.bind_eq_some_iff.1 h1
  obtain ⟨c3,h4,h1⟩:=Option.bind_eq_some_iff.1 h1
  obtain ⟨l2,h5,h6⟩:=Option.bind_eq_some_iff.1 h1
  refine Zb (ZpA he) (Zb h3 (Zb h4 (Zb h5 (Zb h6 ?_))))
  rw [ZaH (by omega) (by omega)]
  exact ih _ ⟨n+1,c1,rfl,by omega,h2⟩ (by omega)
 ·obtain rfl:n=l.length:=by omega
  rw [List.drop_length] at hc
  injection hc with hc
  subst hc
  exact hk
theorem ZpC {m:Nat} {f r:Finder} {l:List Node} (hl:l.length≤4611686018427387900) (h:Zg5 (Zgx m) l f=some r):Zp (m+1) f l=some r:=by
 refine Zay ?_
 simp only [Zp]
 refine Zac (fun a=>∃ (n:Nat) (c:Finder),a=((n:Int),c.links,c.members)∧n≤l.length∧Zg5 (Zgx m) (l.drop n) c=some r) (fun a=>l.length - a.1.toNat) ⟨0,f,rfl,Nat.zero_le _,h⟩ (by dsimp only;omega) ?_
 rintro a rec ⟨n,c,rfl,hn,hc⟩ ih
 dsimp only at ih ⊢
 refine Zj (fun hlt=>?_) (fun hge=>?_)
 ·obtain ⟨e,he,hd⟩:=ZpB (show n<l.length by omega)
  rw [hd] at hc
  obtain ⟨c',h1,h2⟩:=Option.bind_eq_some_iff.1 hc
  have next:Tot (rec (w64 ((n:Int)+1),c'.links,c'.members)) (fun x=>x=r):=by
   rw [ZaH (by omega) (by omega)]
   exact ih _ ⟨n+1,c',rfl,by omega,h2⟩ (by omega)
  refine ZaL (Zb (ZpA he) (ZaL ?_))
  unfold Zgx at h1
  by_cases h6:e.kind=6∧e.tag=2
  ·rw [if_pos h6] at h1
   injection h1 with h1
   subst h1
   rw [if_pos (decide_eq_true h6.1),decide_eq_true h6.2]
   exact ZG (fun _=>next) fun h=>by cases h
  ·rw [if_neg h6] at h1
   obtain ⟨c1,h3,h1⟩:=Option.bind_eq_some_iff.1 h1
   obtain ⟨ks,h4,h1⟩:=Option.bind_eq_some_iff.1 h1
   obtain ⟨c2,h5,h1⟩:=Option.bind_eq_some_iff.1 h1
   obtain ⟨al,h7,h1⟩:=Option.bind_eq_some_iff.1 h1
   split at h1
   ·rename_i hal
    have go:Tot (letk (fun (x240:List Link)=>
      (Zbb e.kids).bind fun l241=>
      (Zp m (⟨x240,c.members⟩:Finder) l241).bind fun r242=>
      (ZjL e.args).bind fun l243=>
      Zbf Zdo (fun f22 ((x254,x255,x256):Int×(List Link)×(List Memb))=>
       if (decide (x254<(l243.length:Int))) then
        (atI l243 x254).bind fun e272=>
        (Zbb e272.name).bind fun l273=>
        (Zp m (⟨x255,x256⟩:Finder) l273).bind fun r274=>
        (Zbb e272.value).bind fun l275=>
        (Zp m r274 l275).bind fun r276=>
        f22 ((w64 (x254+1)),r276.links,r276.members)
       else
       rec (w64 ((n:Int)+1),x255,x256)) (0,r242.links,r242.members)) fun k21=>
     if (decide (e.kind=4)) then
      (Zbb e.kids).bind fun l277=>
      (Zb5 l277).bind fun r278=>
      if r278.2 then
       (Zjs 32 c.links [(⟨2,r278.1⟩:Link)]).bind fun l279=>
       k21 l279
      else
      k21 c.links
     else
     k21 c.links) (fun x=>x=r):=by
     refine Zap (fun q=>∀ x,(⟨x,c.members⟩:Finder)=c1→Tot (q x) (fun x=>x=r)) (fun x hx=>?_) fun q hq=>?_
     ·rw [hx]
      exact Zb h4 (Zb h5 (Zb h7 (ZsV (k:=fun x y=>rec (w64 ((n:Int)+1),x,y)) hal h1 next)))
     ·unfold Zkx at h3
      refine Zj (fun hk=>?_) fun hk=>?_
      ·rw [if_pos hk] at h3
       obtain ⟨ks',h8,h3⟩:=Option.bind_eq_some_iff.1 h3
       obtain ⟨tr,h9,h3⟩:=Option.bind_eq_some_iff.1 h3
       refine Zb h8 (Zb h9 (ZG (fun h10=>?_) fun h10=>?_))
       ·rw [if_pos h10] at h3
        obtain ⟨l3,h11,h3⟩:=Option.map_eq_some_iff.1 h3
        exact Zb h11 (hq _ h3)
       ·rw [if_neg (by rw [h10];decide)] at h3
        injection h3 with h3
        exact hq _ h3
      ·rw [if_neg hk] at h3
       injection h3 with h3
       exact hq _ h3
    by_cases hk6:e.kind=6
    ·have ht:¬ e.tag=2:=fun h=>h6 ⟨hk6,h⟩
     rw [if_pos (decide_eq_true hk6),decide_eq_false ht]
     exact ZG (fun h=>by cases h) fun _=>go
    ·rw [if_neg (by rw [decide_eq_false hk6];decide)]
     exact ZG (fun h=>by cases h) fun _=>go
   ·cases h1
 ·obtain rfl:n=l.length:=by omega
  rw [List.drop_length] at hc
  injection hc with hc
  subst hc
  exact Zd rfl
def nm1:List UInt8:=[110,111,105,110,99,108,117,100,101]
def nm2:List UInt8:=[105,110,99,108,117,100,101,111,110,108,121]
def nm3:List UInt8:=[111,110,108,121,105,110,99,108,117,100,101]
def ZfO (pfx l:List UInt8):Int×Int:=
 if (pfx++nm1 ++ [62]).isPrefixOf l then (1,((pfx++nm1 ++ [62]).length:Int)) else
 if (pfx++nm2 ++ [62]).isPrefixOf l then (2,((pfx++nm2 ++ [62]).length:Int)) else
 if (pfx++nm3 ++ [62]).isPrefixOf l then (3,((pfx++nm3 ++ [62]).length:Int)) else (0,0)
theorem Zc3 {α β:Type} {n m:Nat} {F:(α→Option β)→α→Option β} {a:α} {R:β→Prop} (e:m=n+1) (h:Tot (F (Zbf n F) a) R):Tot (Zbf m F a) R:=by
 subst e
 exact h
theorem ZdM (a b:List UInt8) (h:a.length+b.length≤9223372036854775807):Zi7 (bs a) (bs b)=some (bs (a++b)):=by
 rw [Zmn (show (bs a).size+(bs b).size≤_ from h),Zss]
theorem Zfm (pfx l:List UInt8) (h:pfx.length≤10):Zb4 (bs l) (bs pfx)=some (ZfO pfx l):=by
 have n1:nm1.length=9:=rfl
 have n2:nm2.length=11:=rfl
 have n3:nm3.length=11:=rfl
 have z:([62]:List UInt8).length=1:=rfl
 have l1:(pfx++nm1).length=pfx.length+9:=by rw [List.length_append,n1]
 have l2:(pfx++nm2).length=pfx.length+11:=by rw [List.length_append,n2]
 have l3:(pfx++nm3).length=pfx.length+11:=by rw [List.length_append,n3]
 refine Zay ?_
 unfold Zb4 ZeL
 refine Zb rfl ?_
 refine Zc3 (n:=4611686018427387903) rfl (Zj (fun _=>?_) fun h=>absurd (by decide) h)
 refine Zb (v:=bs nm1) rfl ?_
 refine Zb (ZdM pfx nm1 (by omega)) ?_
 refine Zb (ZdM (pfx++nm1) [62] (by omega)) ?_
 refine Zb (Zc6 l (pfx++nm1 ++ [62])) ?_
 unfold ZfO
 refine ZG (fun h1=>?_) fun h1=>?_
 ·rw [if_pos h1]
  exact Zd rfl
 rw [if_neg (by rw [h1];decide)]
 refine Zc3 (n:=4611686018427387902) rfl (Zj (fun _=>?_) fun h=>absurd (by decide) h)
 refine Zb (v:=bs nm2) rfl ?_
 refine Zb (ZdM pfx nm2 (by omega)) ?_
 refine Zb (ZdM (pfx++nm2) [62] (by omega)) ?_
 refine Zb (Zc6 l (pfx++nm2 ++ [62])) ?_
 refine ZG (fun h2=>?_) fun h2=>?_
 ·rw [if_pos h2]
  exact Zd rfl
 rw [if_neg (by rw [h2];decide)]
 refine Zc3 (n:=4611686018427387901) rfl (Zj (fun _=>?_) fun h=>absurd (by decide) h)
 refine Zb (v:=bs nm3) rfl ?_
 refine Zb (ZdM pfx nm3 (by omega)) ?_
 refine Zb (ZdM (pfx++nm3) [62] (by omega)) ?_
 refine Zb (Zc6 l (pfx++nm3 ++ [62])) ?_
 refine ZG (fun h3=>?_) fun h3=>?_
 ·rw [if_pos h3]
  exact Zd rfl
 rw [if_neg (by rw [h3];decide)]
 exact Zc3 (n:=4611686018427387900) rfl (Zd rfl)
def ZhL (c:UInt8):List UInt8→Nat
 | []=>0
 | x::l=>if x=c then ZhL c l+1 else 0
theorem ZhZ {c x:UInt8} {l:List UInt8} (h:x=c):ZhL c (x::l)=ZhL c l+1:=by rw [ZhL,if_pos h]
theorem Zez {c x:UInt8} {l:List UInt8} (h:¬ x=c):ZhL c (x::l)=0:=by rw [ZhL,if_neg h]
theorem ZmB (c:UInt8):∀ l:List UInt8,ZhL c l≤l.length
 | []=>Nat.le_refl _
 | x::l=>by
   have:=ZmB c l
   unfold ZhL
   split
   ·simp;omega
   ·exact Nat.zero_le _
theorem ZlB (c:UInt8):∀ (l:List UInt8) (i:Nat),i≤ZhL c l→i+ZhL c (l.drop i)=ZhL c l
 | l,0,_=>by simp
 | [],i+1,h=>by simp [ZhL] at h
 | x::l,i+1,h=>by
   by_cases hx:x=c
   ·rw [ZhZ hx] at h ⊢
    have:=ZlB c l i (by omega)
    simp only [List.drop_succ_cons]
    omega
   ·rw [Zez hx] at h
    omega
theorem Zd5 (c:UInt8) (l:List UInt8) (h:l.length≤1000000):ZcZ (bs l) (c.toNat:Int)=some (ZhL c l:Int):=by
 have z:(bs l).size=l.length:=rfl
 refine Zay ?_
 unfold ZcZ
 refine Zac (fun i=>0≤i∧i≤(ZhL c l:Int)) (fun i=>l.length - i.toNat) ⟨Int.le_refl _,by omega⟩ (by omega) fun i rec hJ ih=>?_
 obtain ⟨h0,h1⟩:=hJ
 obtain ⟨n,rfl⟩:∃ n:Nat,i=(n:Int):=⟨i.toNat,by omega⟩
 have hle:=ZmB c l
 have hd:=ZlB c l n (by omega)
 refine ZaL (Zj (fun hl=>?_) fun hl=>?_)
 ·have hn:n<l.length:=by omega
  have e:l[n]? = some l[n]:=List.getElem?_eq_getElem hn
  refine Zb (ZfX e) ?_
  rw [List.drop_eq_getElem_cons hn] at hd
  refine Zj (fun hc=>?_) fun hc=>?_
  ·have hx:l[n]=c:=UInt8.toNat_inj.1 (by omega)
   rw [ZhZ hx] at hd
   rw [ZaH (by omega) (by omega)]
   exact ih _ ⟨by omega,by omega⟩ (by omega)
  ·have hx:¬ l[n]=c:=fun hx=>hc (by rw [hx])
   rw [Zez hx] at hd
   exact Zd (by omega)
 ·exact Zd (by omega)
def cmt:List UInt8:=[60,33,45,45]
def cmtE:List UInt8:=[45,45,62]
def nwk:List UInt8:=[60,110,111,119,105,107,105,62]
def nwkE:List UInt8:=[60,47,110,111,119,105,107,105,62]
def ZlU (l:List UInt8):Int×Int:=
 if cmt.isPrefixOf l=true then (if 0≤Lib.index (l.drop 4) cmtE then (9,4+Lib.index (l.drop 4) cmtE+3) else (9,(l.length:Int)))
 else if nwk.isPrefixOf l=true∧0≤Lib.index (l.drop 8) nwkE then (10,8+Lib.index (l.drop 8) nwkE+9)
 else if 0<(ZfO [60] l).2 then (11,(ZfO [60] l).2) else if 0<(ZfO [60,47] l).2 then (12,(ZfO [60,47] l).2) else (0,0)
theorem Znq (l p:List UInt8) (h:l.length≤1000000):strings_Index (bs l) (bs p)=some (Lib.index l p):=by
 unfold strings_Index
 rw [if_pos (show (bs l).size<4294967281 from by have:(bs l).size=l.length:=rfl;omega)]
 rfl
theorem Zi0 {p l:List UInt8} (h:p.isPrefixOf l=true):p.length≤l.length:=(List.isPrefixOf_iff_prefix.1 h).length_le
theorem Zjp (l:List UInt8) (h:l.length≤1000000):ZdA (bs l)=some (ZlU l):=by
 have z:(bs l).size=l.length:=rfl
 refine Zay ?_
 unfold ZdA ZlU
 refine Zb (Zc6 l cmt) ?_
 refine ZG (fun h1=>?_) fun h1=>?_
 ·rw [if_pos h1]
  have h4:4≤l.length:=Zi0 h1
  refine Zb (Zc5 l 4 h4) ?_
  refine Zb (Znq (l.drop 4) cmtE (by simp;omega)) ?_
  have hx:=Lib.index_le (l.drop 4) cmtE
  simp only [List.length_drop] at hx
  refine Zj (fun h2=>?_) fun h2=>?_
  ·rw [if_pos h2]
   have e1:w64 (4+Lib.index (l.drop 4) cmtE)=4+Lib.index (l.drop 4) cmtE:=ZaH (by omega) (by omega)
   rw [e1,ZaH (by omega) (by omega)]
   exact Zd rfl
  ·rw [if_neg h2]
   exact Zd rfl
 rw [if_neg (by rw [h1];decide)]
 refine Zb (Zc6 l nwk) ?_
 have tags:Tot ((Zb4 (bs l) ⟨#[60]⟩).bind fun r9=>if decide (0<r9.2)=true then (some (11,r9.2):Option (Int×Int)) else (Zb4 (bs l) ⟨#[60,47]⟩).bind fun r10=>if decide (0<r10.2)=true then some (12,r10.2) else some (0,0)) fun r=>r=if 0<(ZfO [60] l).2 then (11,(ZfO [60] l).2) else if 0<(ZfO [60,47] l).2 then (12,(ZfO [60,47] l).2) else (0,0):=by
  refine Zb (Zfm [60] l (by decide)) ?_
  refine Zj (fun h2=>?_) fun h2=>?_
  ·rw [if_pos h2]
   exact Zd rfl
  rw [if_neg h2]
  refine Zb (Zfm [60,47] l (by decide)) ?_
  refine Zj (fun h3=>?_) fun h3=>?_
  ·rw [if_pos h3]
   exact Zd rfl
  ·rw [if_neg h3]
   exact Zd rfl
 refine ZaL (ZG (fun h2=>?_) fun h2=>?_)
 ·have h8:8≤l.length:=Zi0 h2
  refine Zb (Zc5 l 8 h8) ?_
  refine Zb (Znq (l.drop 8) nwkE (by simp;omega)) ?_
  have hx:=Lib.index_le (l.drop 8) nwkE
  simp only [List.length_drop] at hx
  refine Zj (fun h3=>?_) fun h3=>?_
  ·rw [if_pos ⟨h2,h3⟩]
   have e1:w64 (8+Lib.index (l.drop 8) nwkE)=8+Lib.index (l.drop 8) nwkE:=ZaH (by omega) (by omega)
   rw [e1,ZaH (by omega) (by omega)]
   exact Zd rfl
  ·rw [if_neg (fun h=>h3 h.2)]
   exact tags
 ·rw [if_neg (fun h=>by rw [h2] at h;cases h.1)]
  exact tags
def Zi1 (c:UInt8) (l:List UInt8):Int×Int:=if c=60 then ZlU l
  else if c=123 then (if 2≤ZhL 123 l then (3,(ZhL 123 l:Int)) else (0,0))
  else if c=125 then (if 2≤ZhL 125 l then (4,(ZhL 125 l:Int)) else (0,0))
  else if c=91 then (if 2≤ZhL 91 l then (5,2) else (0,0))
  else if c=93 then (if 2≤ZhL 93 l then (6,2) else (0,0))
  else if c=124 then (7,1) else if c=61 then (8,1) else if c=10 then (2,1) else (0,0)
def ZaD:List UInt8→Int×Int
 | []=>(0,0)
 | c::l=>Zi1 c (c::l)
theorem u8c {c k:UInt8}:((c.toNat:Int)=(k.toNat:Int))↔c=k:=
 ⟨fun h=>UInt8.toNat_inj.1 (by omega),fun h=>by rw [h]⟩
theorem Zjq (c:UInt8) (l:List UInt8) (h:(c::l).length≤1000000):ZcF (bs (c::l))=some (ZaD (c::l)):=by
 refine Zay ?_
 rw [show ZaD (c::l)=Zi1 c (c::l) from rfl]
 unfold ZcF Zi1
 refine Zb (ZfX (L:=c::l) (n:=0) rfl) ?_
 refine ZaL ?_
 refine Zj (fun h1=>?_) fun h1=>?_
 ·rw [if_pos ((u8c (k:=60)).1 h1)]
  exact Zb (Zjp _ h) (Zd rfl)
 rw [if_neg fun e=>h1 ((u8c (k:=60)).2 e)]
 refine Zj (fun h2=>?_) fun h2=>?_
 ·rw [if_pos ((u8c (k:=123)).1 h2)]
  refine Zb (Zd5 123 _ h) (Zj (fun h3=>?_) fun h3=>?_)
  ·rw [if_pos (by omega)];exact Zd rfl
  ·rw [if_neg (by omega)];exact Zd rfl
 rw [if_neg fun e=>h2 ((u8c (k:=123)).2 e)]
 refine Zj (fun h3=>?_) fun h3=>?_
 ·rw [if_pos ((u8c (k:=125)).1 h3)]
  refine Zb (Zd5 125 _ h) (Zj (fun h3=>?_) fun h3=>?_)
  ·rw [if_pos (by omega)];exact Zd rfl
  ·rw [if_neg (by omega)];exact Zd rfl
 rw [if_neg fun e=>h3 ((u8c (k:=125)).2 e)]
 refine Zj (fun h4=>?_) fun h4=>?_
 ·rw [if_pos ((u8c (k:=91)).1 h4)]
  refine Zb (Zd5 91 _ h) (Zj (fun h3=>?_) fun h3=>?_)
  ·rw [if_pos (by omega)];exact Zd rfl
  ·rw [if_neg (by omega)];exact Zd rfl
 rw [if_neg fun e=>h4 ((u8c (k:=91)).2 e)]
 refine Zj (fun h5=>?_) fun h5=>?_
 ·rw [if_pos ((u8c (k:=93)).1 h5)]
  refine Zb (Zd5 93 _ h) (Zj (fun h3=>?_) fun h3=>?_)
  ·rw [if_pos (by omega)];exact Zd rfl
  ·rw [if_neg (by omega)];exact Zd rfl
 rw [if_neg fun e=>h5 ((u8c (k:=93)).2 e)]
 refine Zj (fun h6=>?_) fun h6=>?_
 ·rw [if_pos ((u8c (k:=124)).1 h6)]
  exact Zd rfl
 rw [if_neg fun e=>h6 ((u8c (k:=124)).2 e)]
 refine Zj (fun h7=>?_) fun h7=>?_
 ·rw [if_pos ((u8c (k:=61)).1 h7)]
  exact Zd rfl
 rw [if_neg fun e=>h7 ((u8c (k:=61)).2 e)]
 refine Zj (fun h8=>?_) fun h8=>?_
 ·rw [if_pos ((u8c (k:=10)).1 h8)]
  exact Zd rfl
 rw [if_neg fun e=>h8 ((u8c (k:=10)).2 e)]
 exact Zd rfl
def Zb3 (L:List UInt8):Nat→Nat→Nat→List Tok
 | 0,st,_=>if st<L.length then [⟨1,(st:Int),(L.length:Int)⟩] else []
 | f+1,st,i=>if i<L.length then (if (ZaD (L.drop i)).1=0 then Zb3 L f st (i+1) else
   (if st<i then [⟨1,(st:Int),(i:Int)⟩] else [])++⟨(ZaD (L.drop i)).1,(i:Int),(i:Int)+(ZaD (L.drop i)).2⟩::Zb3 L f (i+(ZaD (L.drop i)).2.toNat) (i+(ZaD (L.drop i)).2.toNat))
   else if st<L.length then [⟨1,(st:Int),(L.length:Int)⟩] else []
theorem ZgE {L:List UInt8} {st i:Nat} (h:¬ i<L.length):∀ f,Zb3 L f st i=if st<L.length then [⟨1,(st:Int),(L.length:Int)⟩] else []
 | 0=>rfl
 | f+1=>by
   unfold Zb3
   rw [if_neg h]
theorem ZkB (pfx l:List UInt8):(ZfO pfx l=(0,0))∨((1≤(ZfO pfx l).1∧(ZfO pfx l).1≤3)∧1≤(ZfO pfx l).2∧(ZfO pfx l).2≤(l.length:Int)):=by
 have z:([62]:List UInt8).length=1:=rfl
 unfold ZfO
 split
 ·rename_i h
  have:=Zi0 h
  simp only [List.length_append] at this ⊢
  exact .inr ⟨⟨by decide,by decide⟩,by omega,by omega⟩
 split
 ·rename_i h
  have:=Zi0 h
  simp only [List.length_append] at this ⊢
  exact .inr ⟨⟨by decide,by decide⟩,by omega,by omega⟩
 split
 ·rename_i h
  have:=Zi0 h
  simp only [List.length_append] at this ⊢
  exact .inr ⟨⟨by decide,by decide⟩,by omega,by omega⟩
 ·exact .inl rfl
def Zhe (l:List UInt8) (q:Int×Int):Prop:=q.1=0∨((2≤q.1∧q.1≤12)∧(1≤q.2∧q.2≤(l.length:Int))∧(q.1=10→17≤q.2)∧(q.1=11→0<(ZfO [60] l).2∧q.2=(ZfO [60] l).2))
theorem fo0 {l:List UInt8} (n:Int):Zhe l (0,n):=.inl rfl
theorem fo {l:List UInt8} {k n:Int} (h1:2≤k∧k≤12) (h2:1≤n∧n≤(l.length:Int)) (h3:k=10→17≤n) (h4:k=11→0<(ZfO [60] l).2∧n=(ZfO [60] l).2):Zhe l (k,n):=.inr ⟨h1,h2,h3,h4⟩
theorem Zp3 (l:List UInt8) (h:l≠[]):Zhe l (ZlU l):=by
 have hl:1≤l.length:=List.length_pos_iff.2 h
 unfold ZlU
 split
 ·rename_i h1
  have h4:4≤l.length:=Zi0 h1
  split
  ·rename_i h2
   have:=Lib.index_room _ _ h2
   have z:cmtE.length=3:=rfl
   simp only [List.length_drop] at this
   exact fo ⟨by decide,by decide⟩ ⟨by omega,by omega⟩ (fun h=>by cases h) fun h=>by cases h
  ·exact fo ⟨by decide,by decide⟩ ⟨by omega,by omega⟩ (fun h=>by cases h) fun h=>by cases h
 split
 ·rename_i h2
  have h8:8≤l.length:=Zi0 h2.1
  have:=Lib.index_room _ _ h2.2
  have z:nwkE.length=9:=rfl
  simp only [List.length_drop] at this
  exact fo ⟨by decide,by decide⟩ ⟨by omega,by omega⟩ (fun _=>by omega) fun h=>by cases h
 split
 ·rename_i h3
  rcases ZkB [60] l with h4 | h4
  ·rw [h4] at h3;cases h3
  ·exact fo ⟨by decide,by decide⟩ h4.2 (fun h=>by cases h) fun _=>⟨h3,rfl⟩
 split
 ·rename_i h3
  rcases ZkB [60,47] l with h4 | h4
  ·rw [h4] at h3;cases h3
  ·exact fo ⟨by decide,by decide⟩ h4.2 (fun h=>by cases h) fun h=>by cases h
 ·exact fo0 _
theorem ZiP:∀ l:List UInt8,Zhe l (ZaD l)
 | []=>.inl rfl
 | c::l=>by
   have r (k:UInt8):=ZmB k (c::l)
   show Zhe (c::l) (Zi1 c (c::l))
   unfold Zi1
   split
   ·exact Zp3 _ (by simp)
   have hl:1≤(c::l).length:=by simp
   have r123:=r 123
   have r125:=r 125
   have r91:=r 91
   have r93:=r 93
   repeat' split
   all_goals first
    | exact fo0 _
    | exact fo ⟨by decide,by decide⟩ ⟨by omega,by omega⟩ (fun h=>by cases h) fun h=>by cases h
theorem ZkC (a b:List Tok) (h:a.length+b.length≤1000000):Zjs 24 a b=some (a++b):=Zmm 1000000 h (by decide) (by decide)
theorem ZgF (L:List UInt8) (h:L.length≤8192):Zem (bs L)=some (Zb3 L L.length 0 0,0):=by
 have z:(bs L).size=L.length:=rfl
 refine Zay ?_
 unfold Zem
 refine Zj (fun h2=>absurd h2 (by omega)) fun _=>?_
 refine Zac (fun a:Int×Int×List Tok=>∃ st i f:Nat,a.1=(st:Int)∧a.2.1=(i:Int)∧st≤i∧i≤L.length∧L.length≤i+f∧a.2.2.length≤2 * i∧a.2.2++Zb3 L f st i=Zb3 L L.length 0 0)
  (fun a=>L.length - a.2.1.toNat) ⟨0,0,L.length,rfl,rfl,by omega,by omega,by omega,by simp,rfl⟩ (by dsimp only;omega) ?_
 rintro ⟨x,y,acc⟩ rec ⟨st,i,f,hx,hy,h1,h3,h4,h5,h6⟩ ih
 dsimp only at hx hy h5 h6
 subst hx hy
 dsimp only at ih ⊢
 refine Zj (fun hi=>?_) fun hi=>?_
 ·have hi':i<L.length:=by omega
  obtain ⟨f,rfl⟩:∃ f',f=f'+1:=⟨f - 1,by omega⟩
  have hd:L.drop i=L[i]::L.drop (i+1):=List.drop_eq_getElem_cons hi'
  have hlen:(L.drop i).length=L.length - i:=List.length_drop
  refine Zb (Zc5 L i (by omega)) ?_
  have hf:ZcF (bs (L.drop i))=some (ZaD (L.drop i)):=by
   rw [hd]
   exact Zjq _ _ (by rw [← hd];omega)
  refine Zb hf ?_
  have hok:=ZiP (L.drop i)
  rw [Zb3,if_pos hi'] at h6
  generalize hq:ZaD (L.drop i)=q at hok h6 ⊢
  refine Zj (fun h0=>?_) fun h0=>?_
  ·rw [if_pos h0] at h6
   rw [ZaH (by omega) (by omega)]
   exact ih (st,((i:Int)+1),acc) ⟨st,i+1,f,rfl,by simp,by omega,by omega,by omega,by dsimp only;omega,h6⟩ (by dsimp only;omega)
  ·rw [if_neg h0] at h6
   rcases hok with hok | hok
   ·exact absurd hok h0
   obtain ⟨_,⟨k1,k2⟩,_⟩:=hok
   have e1:w64 ((i:Int)+q.2)=(i:Int)+q.2:=ZaH (by omega) (by omega)
   have e2:(i:Int)+q.2=((i+q.2.toNat:Nat):Int):=by omega
   refine Zap (fun K=>∀ l':List Tok,l'.length≤2 * i+1→l'++⟨q.1,(i:Int),(i:Int)+q.2⟩::Zb3 L f (i+q.2.toNat) (i+q.2.toNat)=Zb3 L L.length 0 0→Tot (K l') fun r=>r=(Zb3 L L.length 0 0,0)) (fun l' hl he=>?_) fun K hK=>?_
   ·rw [e1]
    refine Zb (ZkC l' [⟨q.1,(i:Int),(i:Int)+q.2⟩] (by simp;omega)) ?_
    refine ih ((i:Int)+q.2,(i:Int)+q.2,l' ++ [⟨q.1,(i:Int),(i:Int)+q.2⟩]) ⟨i+q.2.toNat,i+q.2.toNat,f,e2,e2,Nat.le_refl _,by omega,by omega,by simp;omega,?_⟩ (by dsimp only;omega)
    rw [List.append_assoc]
    exact he
   ·refine Zj (fun h7=>?_) fun h7=>?_
    ·rw [if_pos (by omega)] at h6
     refine Zb (ZkC acc [⟨1,(st:Int),(i:Int)⟩] (by simp;omega)) ?_
     refine hK _ (by simp;omega) ?_
     rw [List.append_assoc]
     exact h6
    ·rw [if_neg (by omega)] at h6
     exact hK acc (by omega) h6
 ·rw [ZgE (by omega)] at h6
  refine ZaL (Zj (fun h7=>?_) fun h7=>?_)
  ·rw [if_pos (by omega)] at h6
   refine Zb (ZkC acc [⟨1,(st:Int),((bs L).size:Int)⟩] (by simp;omega)) ?_
   refine Zd ?_
   rw [← h6]
   rfl
  ·rw [if_neg (by omega)] at h6
   refine Zd ?_
   rw [← h6,List.append_nil]
inductive LW:Bool→Nat→List (List PV)→Prop
 | nil (b:Bool) (w:Nat):LW b w []
 | node (n:Node) (l:List (List PV)) (w wk wa wl:Nat) (h:n.text.size+1+wk+wa+wl≤w) (hk:LW false wk n.kids) (ha:LW true wa n.args) (hl:LW false wl l):LW false w (n.cs::l)
 | arg (a:Arg) (l:List (List PV)) (w wn wv wl:Nat) (h:4+wn+wv+wl≤w) (hn:LW false wn a.name) (hv:LW false wv a.value) (hl:LW true wl l):LW true w (a.cs::l)
theorem LW.mono {b:Bool} {w w':Nat} {l:List (List PV)} (h:LW b w l) (hw:w≤w'):LW b w' l:=by
 cases h with
 | nil=>exact .nil _ _
 | node n l w wk wa wl h hk ha hl=>exact .node n l w' wk wa wl (by omega) hk ha hl
 | arg a l w wn wv wl h hn hv hl=>exact .arg a l w' wn wv wl (by omega) hn hv hl
theorem ZqS {a b:Node} (h:a.cs=b.cs):a=b:=by
 obtain ⟨a1,a2,a3,a4,a5⟩:=a
 obtain ⟨b1,b2,b3,b4,b5⟩:=b
 simp [Node.cs] at h
 simp [h]
theorem ZoF {a b:Arg} (h:a.cs=b.cs):a=b:=by
 obtain ⟨a1,a2,a3⟩:=a
 obtain ⟨b1,b2,b3⟩:=b
 simp [Arg.cs] at h
 simp [h]
theorem LW.node_inv {w:Nat} {x:List PV} {l:List (List PV)} (h:LW false w (x::l)):∃ (n:Node) (wk wa wl:Nat),x=n.cs∧n.text.size+1+wk+wa+wl≤w∧LW false wk n.kids∧LW true wa n.args∧LW false wl l:=by
 cases h with
 | node n l w wk wa wl h hk ha hl=>exact ⟨n,wk,wa,wl,rfl,h,hk,ha,hl⟩
theorem LW.arg_inv {w:Nat} {x:List PV} {l:List (List PV)} (h:LW true w (x::l)):∃ (a:Arg) (wn wv wl:Nat),x=a.cs∧4+wn+wv+wl≤w∧LW false wn a.name∧LW false wv a.value∧LW true wl l:=by
 cases h with
 | arg a l w wn wv wl h hn hv hl=>exact ⟨a,wn,wv,wl,rfl,h,hn,hv,hl⟩
theorem LW.app {b:Bool}:∀ {l1 l2:List (List PV)} {w1 w2:Nat},LW b w1 l1→LW b w2 l2→LW b (w1+w2) (l1++l2)
 | [],l2,w1,w2,_,h=>h.mono (by omega)
 | x::l1,l2,w1,w2,h1,h2=>by
   cases b with
   | false=>
     obtain ⟨n,wk,wa,wl,rfl,h,hk,ha,hl⟩:=h1.node_inv
     exact .node n _ _ wk wa (wl+w2) (by omega) hk ha (LW.app hl h2)
   | true=>
     obtain ⟨a,wn,wv,wl,rfl,h,hn,hv,hl⟩:=h1.arg_inv
     exact .arg a _ _ wn wv (wl+w2) (by omega) hn hv (LW.app hl h2)
theorem LW.len {b:Bool}:∀ {l:List (List PV)} {w:Nat},LW b w l→l.length≤w
 | [],w,_=>Nat.zero_le _
 | x::l,w,h=>by
   cases b with
   | false=>
     obtain ⟨n,wk,wa,wl,rfl,h,hk,ha,hl⟩:=h.node_inv
     have:=LW.len hl
     simp
     omega
   | true=>
     obtain ⟨a,wn,wv,wl,rfl,h,hn,hv,hl⟩:=h.arg_inv
     have:=LW.len hl
     simp
     omega
theorem LW.split {b:Bool}:∀ {l1 l2:List (List PV)} {w:Nat},LW b w (l1++l2)→∃ w1 w2,w1+w2≤w∧LW b w1 l1∧LW b w2 l2
 | [],l2,w,h=>⟨0,w,by omega,.nil _ _,h⟩
 | x::l1,l2,w,h=>by
   rw [List.cons_append] at h
   cases b with
   | false=>
     obtain ⟨n,wk,wa,wl,rfl,h,hk,ha,hl⟩:=h.node_inv
     obtain ⟨w1,w2,h0,h1,h2⟩:=LW.split hl
     exact ⟨n.text.size+1+wk+wa+w1,w2,by omega,.node n _ _ wk wa w1 (Nat.le_refl _) hk ha h1,h2⟩
   | true=>
     obtain ⟨a,wn,wv,wl,rfl,h,hn,hv,hl⟩:=h.arg_inv
     obtain ⟨w1,w2,h0,h1,h2⟩:=LW.split hl
     exact ⟨4+wn+wv+w1,w2,by omega,.arg a _ _ wn wv w1 (Nat.le_refl _) hn hv h1,h2⟩
theorem LW.arg1 {w:Nat} {a:Arg} (h:LW true w [a.cs]):∃ wn wv,4+wn+wv≤w∧LW false wn a.name∧LW false wv a.value:=by
 obtain ⟨m,wk,wa,wl,e,h,hk,ha,hl⟩:=h.arg_inv
 obtain rfl:=ZoF e
 exact ⟨wk,wa,by omega,hk,ha⟩
theorem LW.mk1 {w:Nat} (k t:Int) (s:ByteArray) {kids args:List (List PV)} {wk wa:Nat} (hk:LW false wk kids) (ha:LW true wa args) (h:s.size+1+wk+wa≤w):LW false w [Node.cs ⟨k,t,s,kids,args⟩]:=
 .node ⟨k,t,s,kids,args⟩ [] w wk wa 0 (by dsimp only;omega) hk ha (.nil _ _)
theorem LW.mkA {w:Nat} (b:Bool) {n v:List (List PV)} {wn wv:Nat} (hn:LW false wn n) (hv:LW false wv v) (h:4+wn+wv≤w):LW true w [Arg.cs ⟨b,n,v⟩]:=
 (.arg ⟨b,n,v⟩ [] w wn wv 0 (by omega) hn hv (.nil _ _))
def EW (w:Nat) (e:El):Prop:=((e.kind=2→1≤e.tag∧e.tag≤3)∧0≤e.count)∧∃ wl wa,wl+wa+20+e.count.toNat≤w∧LW false wl e.list∧LW true wa (e.argL.map Arg.cs)
theorem EW.mono {w w':Nat} {e:El} (h:EW w e) (hw:w≤w'):EW w' e:=by
 obtain ⟨h0,wl,wa,h1,h2,h3⟩:=h
 exact ⟨h0,wl,wa,by omega,h2,h3⟩
theorem EW.focus {w:Nat} {e:El} (h:EW w e):∃ wc wo,wc+wo≤w∧LW false wc e.cur∧∀ (l':List (List PV)) (wc':Nat),LW false wc' l'→EW (wc'+wo) (e.setCur l'):=by
 obtain ⟨kind,tag,count,list,args⟩:=e
 obtain ⟨h0,wl,wa,h1,h2,h3⟩:=h
 dsimp only at h0 h1 h2
 cases args with
 | none=>exact ⟨wl,wa+20+count.toNat,by omega,h2,fun l' wc' hl=>⟨h0,wc',wa,by dsimp only [El.setCur];omega,hl,h3⟩⟩
 | some q=>
   obtain ⟨pre,a⟩:=q
   by_cases hk:kind=3
   ·have h4:LW true wa ((pre ++ [a]).map Arg.cs):=h3
    rw [List.map_append] at h4
    obtain ⟨w1,w2,h5,h6,h7⟩:=h4.split
    obtain ⟨wn,wv,h8,h9,h10⟩:=LW.arg1 h7
    refine ⟨wv,wl+w1+4+wn+20+count.toNat,by omega,?_,fun l' wc' hl=>?_⟩
    ·show LW false wv (if kind=3 then a.value else list)
     rw [if_pos hk]
     exact h10
    ·have e:El.setCur ⟨kind,tag,count,list,some (pre,a)⟩ l'=⟨kind,tag,count,list,some (pre,⟨a.named,a.name,l'⟩)⟩:=by
      unfold El.setCur
      dsimp only
      rw [if_pos hk]
     rw [e]
     refine ⟨h0,wl,w1+(4+wn+wc'),by dsimp only;omega,h2,?_⟩
     show LW true _ ((pre ++ [(⟨a.named,a.name,l'⟩:Arg)]).map Arg.cs)
     rw [List.map_append]
     exact LW.app h6 (LW.mkA _ h9 hl (Nat.le_refl _))
   ·refine ⟨wl,wa+20+count.toNat,by omega,?_,fun l' wc' hl=>?_⟩
    ·show LW false wl (if kind=3 then a.value else list)
     rw [if_neg hk]
     exact h2
    ·have e:El.setCur ⟨kind,tag,count,list,some (pre,a)⟩ l'=⟨kind,tag,count,l',some (pre,a)⟩:=by
      unfold El.setCur
      dsimp only
      rw [if_neg hk]
     rw [e]
     exact ⟨h0,wc',wa,by dsimp only;omega,hl,h3⟩
theorem ZoG {w wn:Nat} {l:List (List PV)} {n:Node} (h:LW false w l) (hn:LW false wn [n.cs]) (hb:w+wn≤1000000):∃ l',Zg6 l n=some l'∧LW false (w+wn) l':=by
 have h1:=h.len
 have h2:=hn.len
 refine ⟨l ++ [n.cs],Zmm 1000000 (by simp at h2 ⊢;omega) (by omega) (by omega),LW.app h hn⟩
theorem ZsC {w:Nat} {l:List (List PV)} {s:ByteArray} (h:LW false w l) (hb:w+s.size+1≤1000000):∃ l',Zky l s=some l'∧LW false (w+(s.size+1)) l':=by
 have hn:∃ l',Zg6 l ⟨1,0,s,[],[]⟩=some l'∧LW false (w+(s.size+1)) l':=ZoG h (LW.mk1 1 0 s (LW.nil _ 0) (LW.nil _ 0) (by omega)) (by omega)
 unfold Zky
 split
 ·exact hn
 ·rename_i x hx
  obtain ⟨init,rfl⟩:=List.getLast?_eq_some_iff.1 hx
  obtain ⟨w1,w2,h1,h2,h3⟩:=h.split
  obtain ⟨n,wk,wa,wl,rfl,h4,hk,ha,_⟩:=h3.node_inv
  rw [show ZsX n.cs=some n from rfl]
  show ∃ l',(if n.kind=1 then (Zi7 n.text s).map fun y=>(init ++ [n.cs]).dropLast ++ [Node.cs ⟨1,n.tag,y,n.kids,n.args⟩] else Zg6 (init ++ [n.cs]) ⟨1,0,s,[],[]⟩)=some l'∧_
  by_cases hk1:n.kind=1
  ·rw [if_pos hk1,Zmn (by omega)]
   refine ⟨_,rfl,?_⟩
   rw [List.dropLast_concat]
   refine LW.mono (LW.app h2 (LW.mk1 1 n.tag (n.text++s) hk ha (Nat.le_refl _))) ?_
   rw [ByteArray.size_append]
   omega
  ·rw [if_neg hk1]
   exact hn
def alike (e e':El):Prop:=e'.kind=e.kind∧e'.tag=e.tag∧e'.count=e.count∧(e'.args=none↔e.args=none)
theorem alike.refl (e:El):alike e e:=⟨rfl,rfl,rfl,Iff.rfl⟩
theorem alike.trans {a b c:El} (h:alike a b) (k:alike b c):alike a c:=⟨k.1.trans h.1,k.2.1.trans h.2.1,k.2.2.1.trans h.2.2.1,k.2.2.2.trans h.2.2.2⟩
theorem ZkW (e:El) (l:List (List PV)):alike e (e.setCur l):=by
 obtain ⟨kind,tag,count,list,args⟩:=e
 cases args with
 | none=>exact ⟨rfl,rfl,rfl,Iff.rfl⟩
 | some q=>
   obtain ⟨pre,a⟩:=q
   unfold El.setCur
   dsimp only
   split
   ·exact ⟨rfl,rfl,rfl,by simp⟩
   ·exact ⟨rfl,rfl,rfl,Iff.rfl⟩
theorem ZoH {w wn:Nat} {e:El} {n:Node} (h:EW w e) (hn:LW false wn [n.cs]) (hb:w+wn≤1000000):∃ e',ZfN e n=some e'∧EW (w+wn) e'∧alike e e':=by
 obtain ⟨wc,wo,h1,h2,h3⟩:=h.focus
 obtain ⟨l',h4,h5⟩:=ZoG h2 hn (by omega)
 exact ⟨e.setCur l',by unfold ZfN;rw [h4];rfl,(h3 l' _ h5).mono (by omega),ZkW e l'⟩
theorem ZfZ {w:Nat} {e:El} {s:ByteArray} (h:EW w e) (hb:w+s.size+1≤1000000):∃ e',ZaY e s=some e'∧EW (w+(s.size+1)) e'∧alike e e':=by
 unfold ZaY
 split
 ·exact ⟨e,rfl,h.mono (by omega),alike.refl e⟩
 ·obtain ⟨wc,wo,h1,h2,h3⟩:=h.focus
  obtain ⟨l',h4,h5⟩:=ZsC (s:=s) h2 (by omega)
  exact ⟨e.setCur l',by rw [h4];rfl,(h3 l' _ h5).mono (by omega),ZkW e l'⟩
theorem ZmP:∀ {l:List (List PV)} {w wl:Nat} {e:El},EW w e→LW false wl l→w+wl≤1000000→∃ e',ZhE e l=some e'∧EW (w+wl) e'∧alike e e'
 | [],w,wl,e,h,_,_=>⟨e,rfl,h.mono (by omega),alike.refl e⟩
 | x::l,w,wl,e,h,hl,hb=>by
   obtain ⟨n,wk,wa,wr,rfl,h1,hk,ha,hr⟩:=hl.node_inv
   have step:∃ e',(if n.kind=1 then ZaY e n.text else ZfN e n)=some e'∧EW (w+(n.text.size+1+wk+wa)) e'∧alike e e':=by
    by_cases hk1:n.kind=1
    ·rw [if_pos hk1]
     obtain ⟨e',h2,h3,h4⟩:=ZfZ (s:=n.text) h (by omega)
     exact ⟨e',h2,h3.mono (by omega),h4⟩
    ·rw [if_neg hk1]
     exact ZoH h (LW.mk1 n.kind n.tag n.text hk ha (Nat.le_refl _)) (by omega)
   obtain ⟨e',h2,h3,h4⟩:=step
   obtain ⟨e2,h5,h6,h7⟩:=ZmP h3 hr (by omega)
   refine ⟨e2,?_,h6.mono (by omega),h4.trans h7⟩
   show ((ZsX n.cs).bind fun n=>(if n.kind=1 then ZaY e n.text else ZfN e n).bind fun e'=>ZhE e' l)=_
   rw [show ZsX n.cs=some n from rfl]
   show ((if n.kind=1 then ZaY e n.text else ZfN e n).bind fun e'=>ZhE e' l)=_
   rw [h2]
   exact h5
theorem ZhP {l:List (List PV)} {w wl:Nat} {e:El} (h:EW w e) (hl:LW false wl l) (hb:w+wl≤1000000):∃ e',Zcl e l=some e'∧EW (w+wl) e'∧alike e e':=by
 have:=hl.len
 unfold Zcl
 rw [if_pos (by omega)]
 exact ZmP h hl hb
theorem ZoI {a:Arg} {w wn wv:Nat} {e:El} (h:EW w e) (hn:LW false wn a.name) (hv:LW false wv a.value) (hb:w+(4+wn+wv)≤1000000):∃ e',Zid e a=some e'∧EW (w+(4+wn+wv)) e'∧alike e e':=by
 have z1:(⟨#[124]⟩:ByteArray).size=1:=rfl
 have z2:(⟨#[61]⟩:ByteArray).size=1:=rfl
 obtain ⟨b,h1,h2,h3⟩:=ZfZ (s:=⟨#[124]⟩) h (by omega)
 have mid:∃ d,((if a.named=true then (Zcl b a.name).bind fun c=>ZaY c ⟨#[61]⟩ else some b):Option El)=some d∧EW (w+(4+wn)) d∧alike b d:=by
  by_cases hm:a.named=true
  ·rw [if_pos hm]
   obtain ⟨c,h4,h5,h6⟩:=ZhP h2 hn (by omega)
   obtain ⟨d,h7,h8,h9⟩:=ZfZ (s:=⟨#[61]⟩) h5 (by omega)
   exact ⟨d,by rw [h4];exact h7,h8.mono (by omega),h6.trans h9⟩
  ·rw [if_neg hm]
   exact ⟨b,rfl,h2.mono (by omega),alike.refl b⟩
 obtain ⟨d,h4,h5,h6⟩:=mid
 obtain ⟨e',h7,h8,h9⟩:=ZhP h5 hv (by omega)
 refine ⟨e',?_,h8.mono (by omega),h3.trans (h6.trans h9)⟩
 unfold Zid
 rw [h1]
 show (((if a.named=true then (Zcl b a.name).bind fun c=>ZaY c ⟨#[61]⟩ else some b):Option El).bind fun d=>Zcl d a.value)=_
 rw [h4]
 exact h7
theorem Zjx:∀ {l:List Arg} {w wl:Nat} {e:El},EW w e→LW true wl (l.map Arg.cs)→w+wl≤1000000→∃ e',Zd2 e l=some e'∧EW (w+wl) e'∧alike e e'
 | [],w,wl,e,h,_,_=>⟨e,rfl,h.mono (by omega),alike.refl e⟩
 | a::l,w,wl,e,h,hl,hb=>by
   rw [List.map_cons] at hl
   obtain ⟨a',wn,wv,wr,ea,h1,hn,hv,hr⟩:=hl.arg_inv
   obtain rfl:=ZoF ea
   obtain ⟨e1,h2,h3,h4⟩:=ZoI h hn hv (by omega)
   obtain ⟨e2,h5,h6,h7⟩:=Zjx h3 hr (by omega)
   refine ⟨e2,?_,h6.mono (by omega),h4.trans h7⟩
   show ((Zid e a).bind fun e'=>Zd2 e' l)=_
   rw [h2]
   exact h5
theorem Zt7 {b:UInt8} {c:Int} (h0:0≤c) (h1:c≤1000000):∃ s,strings_Repeat ⟨#[b]⟩ c=some s∧s.size=c.toNat∧(c=0→s=⟨#[]⟩):=by
 have z:(⟨#[b]⟩:ByteArray).size=1:=rfl
 refine ⟨⟨(Lib.repeatL [b] c.toNat).toArray⟩,?_,?_,fun h=>?_⟩
 ·unfold strings_Repeat
  rw [if_pos ⟨h0,by omega,by rw [z,Nat.one_mul];omega⟩]
 ·show (Lib.repeatL [b] c.toNat).length=_
  rw [Lib.repeatL_length]
  simp
 ·subst h
  rfl
theorem Zp4 {t:Int} (h1:1≤t) (h3:t≤3):∃ s,Zdg t=some s∧s.size≤13:=by
 have:t=1∨t=2∨t=3:=by omega
 rcases this with rfl | rfl | rfl
 ·exact ⟨⟨#[60,110,111,105,110,99,108,117,100,101,62]⟩,by kernel_rfl,by decide⟩
 ·exact ⟨⟨#[60,105,110,99,108,117,100,101,111,110,108,121,62]⟩,by kernel_rfl,by decide⟩
 ·exact ⟨⟨#[60,111,110,108,121,105,110,99,108,117,100,101,62]⟩,by kernel_rfl,by decide⟩
theorem Zn8 {w c:Nat} {e e2:El} (ht:e.kind=2→1≤e.tag∧e.tag≤3) (h0:0≤e.count) (hc:e.count.toNat=c) (h:EW w e2) (hb:w+20+c≤1000000):∃ a,Zfu e e2=some a∧EW (w+20+c) a∧alike e2 a:=by
 have z1:(⟨#[91,91]⟩:ByteArray).size=2:=rfl
 unfold Zfu
 by_cases k1:e.kind=1
 ·rw [if_pos k1]
  obtain ⟨a,h1,h2,h3⟩:=ZfZ (s:=⟨#[91,91]⟩) h (by omega)
  exact ⟨a,h1,h2.mono (by omega),h3⟩
 rw [if_neg k1]
 by_cases k2:e.kind=2
 ·rw [if_pos k2]
  obtain ⟨s,hs,hz⟩:=Zp4 (ht k2).1 (ht k2).2
  obtain ⟨a,h1,h2,h3⟩:=ZfZ (s:=s) h (by omega)
  exact ⟨a,by rw [hs];exact h1,h2.mono (by omega),h3⟩
 rw [if_neg k2]
 by_cases k3:e.kind=3
 ·rw [if_pos k3]
  obtain ⟨s,hs,hz,_⟩:=Zt7 (b:=123) h0 (by omega)
  obtain ⟨a,h1,h2,h3⟩:=ZfZ (s:=s) h (by omega)
  exact ⟨a,by rw [hs];exact h1,h2.mono (by omega),h3⟩
 rw [if_neg k3]
 exact ⟨e2,rfl,h.mono (by omega),alike.refl _⟩
theorem Zn9 {w w2:Nat} {e e2:El} (h:EW w e) (h2:EW w2 e2) (hb:w+w2≤1000000):∃ e3,Zfv e e2=some e3∧EW (w+w2) e3∧alike e2 e3:=by
 obtain ⟨⟨ht,h0⟩,wl,wa,h3,h4,h5⟩:=h
 obtain ⟨a,a1,a2,a3⟩:=Zn8 ht h0 rfl h2 (by omega)
 obtain ⟨b,b1,b2,b3⟩:=ZhP a2 h4 (by omega)
 obtain ⟨c,c1,c2,c3⟩:=Zjx b2 h5 (by omega)
 have hl:=h5.len
 rw [List.length_map] at hl
 refine ⟨c,?_,c2.mono (by omega),a3.trans (b3.trans c3)⟩
 unfold Zfv
 rw [a1]
 show ((Zcl a e.list).bind fun b=>if e.argL.length≤4611686018427387904 then Zd2 b e.argL else none)=_
 rw [b1]
 show (if e.argL.length≤4611686018427387904 then Zd2 b e.argL else none)=_
 rw [if_pos (by omega)]
 exact c1
def SW:Nat→El→List El→Prop
 | w,e,[]=>EW w e
 | w,e,e2::r=>∃ w1 w2,w1+w2≤w∧EW w1 e∧SW w2 e2 r
theorem SW.mono:∀ {r:List El} {w w':Nat} {e:El},SW w e r→w≤w'→SW w' e r
 | [],w,w',e,h,hw=>EW.mono h hw
 | e2::r,w,w',e,⟨w1,w2,h0,h1,h2⟩,hw=>⟨w1,w2,by omega,h1,h2⟩
theorem SW.top {w:Nat} {e:El}:∀ {r:List El},SW w e r→∃ w1 w2,w1+w2≤w∧EW w1 e∧∀ e' w',EW w' e'→SW (w'+w2) e' r
 | [],h=>⟨w,0,by omega,h,fun e' w' h'=>EW.mono h' (by omega)⟩
 | e2::r,⟨w1,w2,h0,h1,h2⟩=>⟨w1,w2,h0,h1,fun e' w' h'=>⟨w',w2,Nat.le_refl _,h',h2⟩⟩
theorem SW.push {w w1:Nat} {e x:El} {r:List El} (h:SW w e r) (hx:EW w1 x):SW (w1+w) x (e::r):=⟨w1,w,Nat.le_refl _,hx,h⟩
def bot:El→List El→Prop
 | e,[]=>e.kind=0
 | _,e2::r=>bot e2 r
theorem ZeU {e e':El} (hk:e'.kind=e.kind):∀ {r:List El},bot e r→bot e' r
 | [],h=>hk.trans h
 | _::_,h=>h
theorem Zh3:∀ (n:Nat) {e:El} {r:List El} {w:Nat},SW w e r→n≤r.length→w≤1000000→∃ q,Zd6 n e r=some q∧SW w q.1 q.2∧q.2=r.drop n∧∃ x,(e::r)[n]? = some x∧alike x q.1
 | 0,e,r,w,h,_,_=>⟨(e,r),rfl,h,rfl,e,rfl,alike.refl e⟩
 | n+1,e,[],w,h,hn,_=>by simp at hn
 | n+1,e,e2::r,w,⟨w1,w2,h0,h1,h2⟩,hn,hb=>by
   obtain ⟨u1,u2,h3,h4,h5⟩:=h2.top
   obtain ⟨e3,h6,h7,h8⟩:=Zn9 h1 h4 (by omega)
   obtain ⟨q,q1,q2,q3,x,q4,q5⟩:=Zh3 n (h5 e3 _ h7) (by simpa using hn) (by omega)
   refine ⟨q,?_,q2.mono (by omega),q3,?_⟩
   ·show ((Zfv e e2).bind fun e3=>Zd6 n e3 r)=_
    rw [h6]
    exact q1
   ·cases n with
    | zero=>
      injection q4 with q4
      subst q4
      exact ⟨e2,rfl,h8.trans q5⟩
    | succ n=>exact ⟨x,q4,q5⟩
theorem ZkE:∀ (n:Nat) {e x:El} {r:List El},bot e r→(e::r)[n]? = some x→n≤r.length→bot x (r.drop n)
 | 0,e,x,r,h,hx,_=>by injection hx with hx;subst hx;exact h
 | n+1,e,x,[],h,hx,hn=>by simp at hn
 | n+1,e,x,e2::r,h,hx,hn=>ZkE n (e:=e2) h (by simpa using hx) (by simpa using hn)
theorem Zei {w:Nat} {e:El} {r:List El} {s:ByteArray} (h:SW w e r) (hk:bot e r) (hb:w+s.size+1≤1000000):∃ e',ZaY e s=some e'∧SW (w+s.size+1) e' r∧bot e' r∧alike e e':=by
 obtain ⟨w1,w2,h1,h2,h3⟩:=h.top
 obtain ⟨e',h4,h5,h6⟩:=ZfZ (s:=s) h2 (by omega)
 exact ⟨e',h4,(h3 e' _ h5).mono (by omega),ZeU h6.1 hk,h6⟩
theorem ZkF {w wn:Nat} {e:El} {r:List El} {n:Node} (h:SW w e r) (hk:bot e r) (hn:LW false wn [n.cs]) (hb:w+wn≤1000000):∃ e',ZfN e n=some e'∧SW (w+wn) e' r∧bot e' r∧alike e e':=by
 obtain ⟨w1,w2,h1,h2,h3⟩:=h.top
 obtain ⟨e',h4,h5,h6⟩:=ZoH h2 hn (by omega)
 exact ⟨e',h4,(h3 e' _ h5).mono (by omega),ZeU h6.1 hk,h6⟩
theorem EW.new {k t c:Int} (ht:k=2→1≤t∧t≤3) (hc:0≤c):EW (20+c.toNat) ⟨k,t,c,[],none⟩:=⟨⟨ht,hc⟩,0,0,by dsimp only;omega,.nil _ _,.nil _ _⟩
theorem ZmD {w:Nat} {e:El} {r:List El} {k t c:Int} {x:ByteArray} (h:SW w e r) (hk:bot e r) (hr:r.length≤20) (ht:k=2→1≤t∧t≤3) (h0:0≤c) (hc:c.toNat≤x.size) (hb:w+x.size+20≤1000000) :
  ∃ q,Zim k t c x e r=some q∧SW (w+x.size+20) q.1 q.2∧bot q.1 q.2∧q.2.length≤20:=by
 unfold Zim
 by_cases hl:20≤r.length
 ·rw [if_pos hl]
  obtain ⟨e',h1,h2,h3,_⟩:=Zei (s:=x) h hk (by omega)
  exact ⟨(e',r),by rw [h1];rfl,h2.mono (by omega),h3,hr⟩
 ·rw [if_neg hl]
  exact ⟨_,rfl,(h.push (EW.new ht h0)).mono (by omega),hk,by simp;omega⟩
theorem Zt8 {w:Nat} {e:El} {r:List El} (h:SW w e r) (hk:bot e r) (hb:w+4≤1000000):∃ e',ZoR e=some e'∧SW (w+4) e' r∧bot e' r∧e'.kind=e.kind∧e'.tag=e.tag∧e'.count=e.count:=by
 obtain ⟨w1,w2,h1,h2,h3⟩:=h.top
 obtain ⟨kind,tag,count,list,args⟩:=e
 unfold ZoR
 by_cases k3:kind=3
 ·rw [if_pos (show (El.mk kind tag count list args).kind=3 from k3)]
  obtain ⟨h0,wl,wa,h4,h5,h6⟩:=h2
  dsimp only at h0 h4 h5
  cases args with
  | none=>
    refine ⟨_,rfl,(h3 _ (w1+4) ⟨h0,wl,4,by dsimp only;omega,h5,?_⟩).mono (by omega),(by refine ZeU ?_ hk;rfl),rfl,rfl,rfl⟩
    exact LW.mkA false (LW.nil _ 0) (LW.nil _ 0) (by omega)
  | some q=>
    obtain ⟨pre,a⟩:=q
    have h7:LW true wa ((pre ++ [a]).map Arg.cs):=h6
    have h8:=h7.len
    simp only [List.length_map,List.length_append,List.length_cons,List.length_nil] at h8
    refine ⟨⟨kind,tag,count,list,some (pre ++ [a],⟨false,[],[]⟩)⟩,?_,(h3 _ (w1+4) ⟨h0,wl,wa+4,by dsimp only;omega,h5,?_⟩).mono (by omega),(by refine ZeU ?_ hk;rfl),rfl,rfl,rfl⟩
    ·show (if pre.length+1≤1000000 then _ else none)=_
     rw [if_pos (by omega)]
    ·show LW true _ (((pre ++ [a]) ++ [(⟨false,[],[]⟩:Arg)]).map Arg.cs)
     rw [List.map_append]
     exact LW.app h7 (LW.mkA false (LW.nil _ 0) (LW.nil _ 0) (by omega))
 ·rw [if_neg (show ¬ (El.mk kind tag count list args).kind=3 from k3)]
  have z1:(⟨#[124]⟩:ByteArray).size=1:=rfl
  obtain ⟨e',h4,h5,h6,h7⟩:=Zei (s:=⟨#[124]⟩) h hk (by omega)
  exact ⟨e',h4,h5.mono (by omega),h6,h7.1,h7.2.1,h7.2.2.1⟩
theorem ZrQ {w:Nat} {e:El} {r:List El} (h:SW w e r) (hk:bot e r) (hb:w+4≤1000000):∃ e',ZfS e=some e'∧SW (w+4) e' r∧bot e' r∧alike e e':=by
 have z1:(⟨#[61]⟩:ByteArray).size=1:=rfl
 have tx:∃ e',ZaY e ⟨#[61]⟩=some e'∧SW (w+4) e' r∧bot e' r∧alike e e':=by
  obtain ⟨e',h4,h5,h6,h7⟩:=Zei (s:=⟨#[61]⟩) h hk (by omega)
  exact ⟨e',h4,h5.mono (by omega),h6,h7⟩
 obtain ⟨w1,w2,h1,h2,h3⟩:=h.top
 obtain ⟨kind,tag,count,list,args⟩:=e
 unfold ZfS
 cases args with
 | none=>exact tx
 | some q=>
   obtain ⟨pre,a⟩:=q
   dsimp only
   by_cases hc:kind=3∧a.named=false
   ·rw [if_pos hc]
    obtain ⟨h0,wl,wa,h4,h5,h6⟩:=h2
    dsimp only at h0 h4 h5
    have h7:LW true wa ((pre ++ [a]).map Arg.cs):=h6
    rw [List.map_append] at h7
    obtain ⟨u1,u2,u3,u4,u5⟩:=h7.split
    obtain ⟨wn,wv,u6,u7,u8⟩:=LW.arg1 u5
    refine ⟨_,rfl,(h3 _ w1 ⟨h0,wl,u1+(4+wv+0),by dsimp only;omega,h5,?_⟩).mono (by omega),(by refine ZeU ?_ hk;rfl),rfl,rfl,rfl,by simp⟩
    show LW true _ ((pre ++ [(⟨true,a.value,[]⟩:Arg)]).map Arg.cs)
    rw [List.map_append]
    exact LW.app u4 (LW.mkA true u8 (LW.nil _ 0) (Nat.le_refl _))
   ·rw [if_neg hc]
    exact tx
theorem ZlL {w:Nat} {e:El} {r:List El} (h:SW w e r) (hk:bot e r) (hr:r.length≤20) (hb:w+4≤1000000):∃ q,ZbU e r=some q∧SW (w+4) q.1 q.2∧bot q.1 q.2∧q.2.length≤20:=by
 have z1:(⟨#[91,91]⟩:ByteArray).size=2:=rfl
 have z2:(⟨#[93,93]⟩:ByteArray).size=2:=rfl
 unfold ZbU
 by_cases k1:e.kind=1
 ·rw [if_pos k1]
  cases r with
  | nil=>have:e.kind=0:=hk;omega
  | cons e2 r=>
    obtain ⟨w1,w2,h0,h1,h2⟩:=h
    obtain ⟨_,wl,wa,h3,h4,h5⟩:=h1
    obtain ⟨a,a1,a2,a3,a4⟩:=Zei (s:=⟨#[91,91]⟩) h2 hk (by omega)
    obtain ⟨u1,u2,u3,u4,u5⟩:=a2.top
    obtain ⟨b,b1,b2,b3⟩:=ZhP u4 h4 (by omega)
    have b4:=u5 b _ b2
    obtain ⟨c,c1,c2,c3,c4⟩:=Zei (s:=⟨#[93,93]⟩) b4 (ZeU b3.1 a3) (by omega)
    refine ⟨(c,r),?_,c2.mono (by omega),c3,by simp at hr;dsimp only;omega⟩
    dsimp only
    rw [a1]
    show ((Zcl a e.list).bind fun b=>(ZaY b ⟨#[93,93]⟩).map fun c=>(c,r))=_
    rw [b1]
    show ((ZaY b ⟨#[93,93]⟩).map fun c=>(c,r))=_
    rw [c1]
    rfl
 ·rw [if_neg k1]
  obtain ⟨c,c1,c2,c3,_⟩:=Zei (s:=⟨#[93,93]⟩) h hk (by omega)
  exact ⟨(c,r),by rw [c1];rfl,c2.mono (by omega),c3,hr⟩
theorem ZmE {w:Nat} {e:El} {r:List El} {k:Int} {s:ByteArray} (h:SW w e r) (hk:bot e r) (hr:r.length≤20) (hb:w+s.size+1≤1000000):∃ q,ZdN k s e r=some q∧SW (w+s.size+1) q.1 q.2∧bot q.1 q.2∧q.2.length≤20:=by
 unfold ZdN
 by_cases h0:ZaV k e r=0
 ·rw [if_pos h0]
  obtain ⟨c,c1,c2,c3,_⟩:=Zei (s:=s) h hk (by omega)
  exact ⟨(c,r),by rw [c1];rfl,c2,c3,hr⟩
 ·rw [if_neg h0]
  have hle:=Zhd k e r
  obtain ⟨⟨x,r1⟩,q1,q2,q3,y,q4,q5⟩:=Zh3 (r.length - ZaV k e r) h (by omega) (by omega)
  dsimp only at q2 q3
  have hlen:r1.length=ZaV k e r:=by rw [q3,List.length_drop];omega
  rw [q1]
  cases r1 with
  | nil=>simp at hlen;omega
  | cons e2 r2=>
    obtain ⟨w1,w2,u0,u1,u2⟩:=q2
    obtain ⟨_,wl,wa,v1,v2,v3⟩:=u1
    have hb2:bot e2 r2:=by
     have:=ZkE (r.length - ZaV k e r) hk q4 (by omega)
     rw [← q3] at this
     exact this
    obtain ⟨e3,n1,n2,n3,_⟩:=ZkF (n:=⟨6,k,⟨#[]⟩,x.list,[]⟩) u2 hb2 (LW.mk1 6 k ⟨#[]⟩ v2 (LW.nil _ 0) (Nat.le_refl _)) (by have z:(⟨#[]⟩:ByteArray).size=0:=rfl;omega)
    refine ⟨(e3,r2),?_,n2.mono (by have z:(⟨#[]⟩:ByteArray).size=0:=rfl;omega),n3,by simp at hlen;dsimp only;omega⟩
    show ((ZfN e2 ⟨6,k,⟨#[]⟩,x.list,[]⟩).map fun e3=>(e3,r2))=_
    rw [n1]
    rfl
theorem ZsJ {α:Type} {x:Option α} {v:α} (h:Tot x (fun r=>r=v)):x=some v:=by
 obtain ⟨w,h1,h2⟩:=h
 rw [h1,h2]
theorem Zq1 {w:Nat} {c:Int} {e:El} (h:EW w e):∃ wn,wn+19+e.count.toNat≤w∧LW false wn [(Ze3 c e).cs]:=by
 obtain ⟨_,wl,wa,h1,h2,h3⟩:=h
 exact ⟨wl+wa+1,by omega,LW.mk1 _ _ _ h2 h3 (by have z:(⟨#[]⟩:ByteArray).size=0:=rfl;omega)⟩
theorem ZtJ {w:Nat} {c:Int} {e:El} {r:List El} (h:SW w e r) (hk:bot e r) (h0:0≤c) (hb:w+c.toNat+1≤1000000):∃ q,Ztr c e r=some q∧SW (w+c.toNat+1) q.1 q.2∧bot q.1 q.2∧q.2=r:=by
 obtain ⟨s,h1,h2,_⟩:=Zt7 (b:=125) h0 (by omega)
 obtain ⟨e',h3,h4,h5,_⟩:=Zei (s:=s) h hk (by omega)
 refine ⟨(e',r),?_,h4.mono (by omega),h5,rfl⟩
 unfold Ztr
 rw [h1]
 show ((ZaY e s).map fun e'=>(e',r))=_
 rw [h3]
 rfl
theorem ZtK {w wn:Nat} {m:Int} {n:Node} {e:El} {r:List El} (h:SW w e r) (hk:bot e r) (hn:LW false wn [n.cs]) (hb:w+wn+2≤1000000):∃ e',Zug e m n=some e'∧SW (w+wn+2) e' r∧bot e' r:=by
 have z:(⟨#[123]⟩:ByteArray).size=1:=rfl
 have mid:∃ e3,((if m=1 then ZaY e ⟨#[123]⟩ else some e):Option El)=some e3∧SW (w+2) e3 r∧bot e3 r:=by
  by_cases hm:m=1
  ·rw [if_pos hm]
   obtain ⟨e3,h1,h2,h3,_⟩:=Zei (s:=⟨#[123]⟩) h hk (by omega)
   exact ⟨e3,h1,h2.mono (by omega),h3⟩
  ·rw [if_neg hm]
   exact ⟨e,rfl,h.mono (by omega),hk⟩
 obtain ⟨e3,h1,h2,h3⟩:=mid
 obtain ⟨e',h4,h5,h6,_⟩:=ZkF h2 h3 hn (by omega)
 refine ⟨e',?_,h5.mono (by omega),h6⟩
 unfold Zug
 rw [h1]
 exact h4
theorem Zee:∀ (f:Nat) {c:Int} {e:El} {r:List El} {w:Nat},SW w e r→bot e r→r.length≤20→0≤c→c<f→w+c.toNat+1≤1000000→∃ q,ZaJ f c e r=some q∧SW (w+c.toNat+1) q.1 q.2∧bot q.1 q.2∧q.2.length≤20
 | 0,c,e,r,w,_,_,_,h0,h1,_=>by omega
 | f+1,c,e,r,w,h,hk,hr,h0,hf,hb=>by
   have fin:∃ q,Ztr c e r=some q∧SW (w+c.toNat+1) q.1 q.2∧bot q.1 q.2∧q.2.length≤20:=by
    obtain ⟨q,h1,h2,h3,h4⟩:=ZtJ h hk h0 hb
    exact ⟨q,h1,h2,h3,by rw [h4];exact hr⟩
   unfold ZaJ
   by_cases h2:2≤c
   ·rw [if_pos h2]
    by_cases hz:Zav e r=0
    ·rw [if_pos hz]
     exact fin
    ·rw [if_neg hz]
     have hle:=Zfr e r
     obtain ⟨⟨x,r1⟩,q1,q2,q3,y,q4,q5⟩:=Zh3 (r.length - Zav e r) h (by omega) (by omega)
     dsimp only at q2 q3 q5
     have hlen:r1.length=Zav e r:=by rw [q3,List.length_drop];omega
     have hbx:bot x r1:=by
      have:=ZkE (r.length - Zav e r) hk q4 (by omega)
      rw [← q3] at this
      exact ZeU q5.1 this
     have hbb:=hbx
     rw [q1]
     cases r1 with
     | nil=>simp at hlen;omega
     | cons e2 r2=>
       obtain ⟨w1,w2,u0,u1,u2⟩:=q2
       have hx0:0≤x.count:=u1.1.2
       have hxw:x.count.toNat≤w1:=by obtain ⟨_,wl,wa,h1,_⟩:=u1;omega
       obtain ⟨wn,n1,n2⟩:=Zq1 (c:=c) u1
       have hK:2≤ZbL c x.count:=by unfold ZbL;split<;>omega
       have hKc:ZbL c x.count≤c:=by unfold ZbL;split<;>omega
       have hcc:(c - ZbL c x.count).toNat+2≤c.toNat:=by omega
       show ∃ q,(if c≤9223372036854775807∧0≤x.count∧x.count≤9223372036854775807 then
        (if 2≤x.count - ZbL c x.count then ZaJ f (c - ZbL c x.count) ⟨x.kind,x.tag,x.count - ZbL c x.count,[(Ze3 c x).cs],none⟩ (e2::r2)
         else (Zug e2 (x.count - ZbL c x.count) (Ze3 c x)).bind fun e4=>ZaJ f (c - ZbL c x.count) e4 r2) else none)=some q∧_
       rw [if_pos ⟨by omega,hx0,by omega⟩]
       by_cases hm:2≤x.count - ZbL c x.count
       ·rw [if_pos hm]
        have hnew:SW w ⟨x.kind,x.tag,x.count - ZbL c x.count,[(Ze3 c x).cs],none⟩ (e2::r2):=by
         refine ⟨wn+20+(x.count - ZbL c x.count).toNat,w2,by omega,⟨⟨u1.1.1,by dsimp only;omega⟩,wn,0,by dsimp only;omega,n2,.nil _ _⟩,u2⟩
        obtain ⟨q,a1,a2,a3,a4⟩:=Zee f (c:=c - ZbL c x.count) (w:=w) hnew (show bot _ (e2::r2) from hbb) (by omega) (by omega) (by omega) (by omega)
        exact ⟨q,a1,a2.mono (by omega),a3,a4⟩
       ·rw [if_neg hm]
        have hb2:bot e2 r2:=hbb
        obtain ⟨e4,o1,o2,o3⟩:=ZtK (m:=x.count - ZbL c x.count) u2 hb2 n2 (by omega)
        rw [o1]
        simp only [List.length_cons] at hlen
        obtain ⟨q,a1,a2,a3,a4⟩:=Zee f (c:=c - ZbL c x.count) (w:=w) (o2.mono (by omega)) o3 (by omega) (by omega) (by omega) (by omega)
        exact ⟨q,a1,a2.mono (by omega),a3,a4⟩
   ·rw [if_neg h2]
    exact fin
structure TokOK (s:ByteArray) (t:Tok):Prop where
 lo:0≤t.from_
 le:t.from_≤t.to_
 hi:t.to_≤(s.size:Int)
 nowiki:t.kind=10→t.from_+17≤t.to_
 tago:t.kind=11→∃ k,Zc0 s t=some k∧1≤k∧k≤3
 tagc:t.kind=12→∃ k,Zc0 s t=some k
theorem ZtL {s:ByteArray} {t:Tok} (h:TokOK s t):∃ x,ZbI s t=some x∧x.size=(t.to_ - t.from_).toNat∧x=s.extract t.from_.toNat t.to_.toNat:=by
 have h1:=h.lo
 have h2:=h.le
 have h3:=h.hi
 refine ⟨s.extract t.from_.toNat t.to_.toNat,?_,by rw [ByteArray.size_extract];omega,rfl⟩
 refine ZsJ ?_
 unfold ZbI
 refine ZaL (Zj (fun h=>absurd h (by omega)) fun _=>Zj (fun h=>absurd h (by omega)) fun _=>?_)
 rw [decide_eq_false (show ¬ (s.size:Int)<t.to_ by omega)]
 exact Zbh h1 h2 h3 fun m hm _=>Zd hm
theorem ZsK {s:ByteArray} {t:Tok} {w:Nat} {e:El} {r:List El} (ht:TokOK s t) (h:SW w e r) (hk:bot e r) (hr:r.length≤20) (hb:w+(t.to_ - t.from_).toNat+30≤1000000) :
  ∃ q,Zin s t e r=some q∧SW (w+(t.to_ - t.from_).toNat+30) q.1 q.2∧bot q.1 q.2∧q.2.length≤20:=by
 obtain ⟨x,hx,hz,_⟩:=ZtL ht
 have one:∀ {o:Option El} {w':Nat},w'≤w+(t.to_ - t.from_).toNat+30→(∃ e',o=some e'∧SW w' e' r∧bot e' r)→∃ q,(o.map fun e'=>(e',r))=some q∧SW (w+(t.to_ - t.from_).toNat+30) q.1 q.2∧bot q.1 q.2∧q.2.length≤20:=by
  rintro o w' hw ⟨e',rfl,h1,h2⟩
  exact ⟨(e',r),rfl,h1.mono hw,h2,hr⟩
 have up:∀ {o:Option (El×List El)} {w':Nat},w'≤w+(t.to_ - t.from_).toNat+30→(∃ q,o=some q∧SW w' q.1 q.2∧bot q.1 q.2∧q.2.length≤20)→∃ q,o=some q∧SW (w+(t.to_ - t.from_).toNat+30) q.1 q.2∧bot q.1 q.2∧q.2.length≤20:=by
  rintro o w' hw ⟨q,rfl,h1,h2,h3⟩
  exact ⟨q,rfl,h1.mono hw,h2,h3⟩
 unfold Zin
 rw [hx]
 show ∃ q,(if t.kind=1∨t.kind=2 then (ZaY e x).map fun e'=>(e',r) else _)=some q∧_
 by_cases k1:t.kind=1∨t.kind=2
 ·rw [if_pos k1]
  obtain ⟨e',h1,h2,h3,_⟩:=Zei (s:=x) h hk (by omega)
  exact one (by omega) ⟨e',h1,h2,h3⟩
 rw [if_neg k1]
 have z0:(⟨#[]⟩:ByteArray).size=0:=rfl
 by_cases k9:t.kind=9
 ·rw [if_pos k9]
  obtain ⟨e',h1,h2,h3,_⟩:=ZkF (n:=⟨2,0,x,[],[]⟩) h hk (LW.mk1 2 0 x (LW.nil _ 0) (LW.nil _ 0) (Nat.le_refl _)) (by omega)
  exact one (by omega) ⟨e',h1,h2,h3⟩
 rw [if_neg k9]
 by_cases k10:t.kind=10
 ·rw [if_pos k10]
  have hn:=ht.nowiki k10
  have hw:w64 ((x.size:Int) - 9)=(x.size:Int) - 9:=ZaH (by omega) (by have:=ht.hi;have:=ht.lo;omega)
  rw [hw]
  have e1:ZeZ x 8 ((x.size:Int) - 9)=some (x.extract 8 (x.size - 9)):=by
   unfold ZeZ
   rw [if_pos ⟨by omega,by omega,by omega⟩]
   have:(((x.size:Int) - 9)).toNat=x.size - 9:=by omega
   rw [this]
   rfl
  rw [e1]
  have z2:(x.extract 8 (x.size - 9)).size≤x.size:=by rw [ByteArray.size_extract];omega
  obtain ⟨e',h1,h2,h3,_⟩:=ZkF (n:=⟨3,0,x.extract 8 (x.size - 9),[],[]⟩) h hk (LW.mk1 3 0 _ (LW.nil _ 0) (LW.nil _ 0) (Nat.le_refl _)) (by omega)
  exact one (by omega) ⟨e',h1,h2,h3⟩
 rw [if_neg k10]
 by_cases k3:t.kind=3
 ·rw [if_pos k3]
  exact up (by omega) (ZmD (k:=3) (t:=0) (c:=x.size) (x:=x) h hk hr (by omega) (by omega) (by omega) (by omega))
 rw [if_neg k3]
 by_cases k5:t.kind=5
 ·rw [if_pos k5]
  exact up (by omega) (ZmD (k:=1) (t:=0) (c:=0) (x:=x) h hk hr (by omega) (by omega) (by omega) (by omega))
 rw [if_neg k5]
 by_cases k11:t.kind=11
 ·rw [if_pos k11]
  obtain ⟨k,g1,g2,g3⟩:=ht.tago k11
  rw [g1]
  exact up (by omega) (ZmD (k:=2) (t:=k) (c:=0) (x:=x) h hk hr (by omega) (by omega) (by omega) (by omega))
 rw [if_neg k11]
 by_cases k7:t.kind=7
 ·rw [if_pos k7]
  obtain ⟨e',h1,h2,h3,_⟩:=Zt8 h hk (by omega)
  exact one (by omega) ⟨e',h1,h2,h3⟩
 rw [if_neg k7]
 by_cases k8:t.kind=8
 ·rw [if_pos k8]
  obtain ⟨e',h1,h2,h3,_⟩:=ZrQ h hk (by omega)
  exact one (by omega) ⟨e',h1,h2,h3⟩
 rw [if_neg k8]
 by_cases k6:t.kind=6
 ·rw [if_pos k6]
  exact up (by omega) (ZlL h hk hr (by omega))
 rw [if_neg k6]
 by_cases k12:t.kind=12
 ·rw [if_pos k12]
  obtain ⟨k,g1⟩:=ht.tagc k12
  rw [g1]
  exact up (by omega) (ZmE (k:=k) (s:=x) h hk hr (by omega))
 rw [if_neg k12]
 by_cases k4:t.kind=4
 ·rw [if_pos k4]
  exact up (by omega) (Zee (x.size+1) (c:=x.size) h hk hr (by omega) (by omega) (by omega))
 rw [if_neg k4]
 exact ⟨(e,r),rfl,h.mono (by omega),hk,hr⟩
def ZhJ:List Tok→Nat
 | []=>0
 | t::l=>(t.to_ - t.from_).toNat+30+ZhJ l
theorem Zm0 {s:ByteArray}:∀ {l:List Tok} {w:Nat} {e:El} {r:List El},(∀ t ∈ l,TokOK s t)→SW w e r→bot e r→r.length≤20→w+ZhJ l≤1000000→∃ q,Zcd s l e r=some q∧SW (w+ZhJ l) q.1 q.2∧bot q.1 q.2∧q.2.length≤20
 | [],w,e,r,_,h,hk,hr,_=>⟨(e,r),rfl,h,hk,hr⟩
 | t::l,w,e,r,hl,h,hk,hr,hb=>by
   unfold ZhJ at hb
   obtain ⟨q,q1,q2,q3,q4⟩:=ZsK (hl t (List.mem_cons_self ..)) h hk hr (by omega)
   obtain ⟨q',p1,p2,p3,p4⟩:=Zm0 (fun t ht=>hl t (List.mem_cons_of_mem _ ht)) q2 q3 q4 (by omega)
   refine ⟨q',?_,p2.mono (by show _≤w+((t.to_ - t.from_).toNat+30+ZhJ l);omega),p3,p4⟩
   show ((Zin s t e r).bind fun q=>Zcd s l q.1 q.2)=_
   rw [q1]
   exact p1
theorem ZkJ {p l:List UInt8} {n:Nat} (h:p.isPrefixOf (l.take n)=true):p.isPrefixOf l=true:=
 List.isPrefixOf_iff_prefix.2 ((List.isPrefixOf_iff_prefix.1 h).trans (List.take_prefix _ _))
theorem ZkK {p l:List UInt8} (h:p.isPrefixOf l=true):l.take p.length=p:=by
 obtain ⟨r,rfl⟩:=List.isPrefixOf_iff_prefix.1 h
 simp
theorem Zhg (p:List UInt8):p.isPrefixOf p=true:=List.isPrefixOf_iff_prefix.2 (List.prefix_refl _)
theorem Zqj (pfx l:List UInt8) (h:0<(ZfO pfx l).2):ZfO pfx (l.take (ZfO pfx l).2.toNat)=ZfO pfx l∧(l.take (ZfO pfx l).2.toNat).length=(ZfO pfx l).2.toNat:=by
 have hl:=ZkB pfx l
 refine ⟨?_,?_⟩
 ·unfold ZfO at h ⊢
  split
  ·rename_i h1
   simp only [Int.toNat_natCast]
   rw [if_pos (by rw [ZkK h1];exact Zhg _)]
  rename_i h1
  rw [if_neg h1] at h
  split
  ·rename_i h2
   simp only [Int.toNat_natCast]
   rw [if_neg (fun h3=>h1 (ZkJ h3)),if_pos (by rw [ZkK h2];exact Zhg _)]
  rename_i h2
  rw [if_neg h2] at h
  split
  ·rename_i h3
   simp only [Int.toNat_natCast]
   rw [if_neg (fun h4=>h1 (ZkJ h4)),if_neg (fun h4=>h2 (ZkJ h4)),if_pos (by rw [ZkK h3];exact Zhg _)]
  rename_i h3
  rw [if_neg h3] at h
  cases h
 ·rw [List.length_take]
  rcases hl with hl | hl
  ·rw [hl] at h;cases h
  ·omega
theorem Zqk {L:List UInt8} {k:Int} {a b:Nat} (h:a≤b) (h2:b≤L.length):ZbI (bs L) ⟨k,(a:Int),(b:Int)⟩=some (bs ((L.take b).drop a)):=by
 have z:(bs L).size=L.length:=rfl
 refine Zay ?_
 unfold ZbI
 refine ZaL (Zj (fun h=>absurd h (by dsimp only;omega)) fun _=>Zj (fun h=>absurd h (by dsimp only;omega)) fun _=>?_)
 rw [decide_eq_false (show ¬ ((bs L).size:Int)<(b:Int) by omega)]
 exact Zb (ZmG L a b h h2) (Zd rfl)
theorem Zsr {L:List UInt8} {k:Int} {a b:Nat} (h:a≤b) (h2:b≤L.length) (pfx:List UInt8) (hp:(k=11∧pfx = [60])∨(k=12∧pfx = [60,47])) :
  Zc0 (bs L) ⟨k,(a:Int),(b:Int)⟩=some (if (ZfO pfx ((L.take b).drop a)).2=(((L.take b).drop a).length:Int) then (ZfO pfx ((L.take b).drop a)).1 else 0):=by
 refine Zay ?_
 unfold Zc0
 have body:Tot ((ZbI (bs L) ⟨k,(a:Int),(b:Int)⟩).bind fun r2=>(Zb4 r2 (bs pfx)).bind fun r3=>if decide (r3.2=(r2.size:Int))=true then (some r3.1:Option Int) else some 0) fun r=>r=if (ZfO pfx ((L.take b).drop a)).2=(((L.take b).drop a).length:Int) then (ZfO pfx ((L.take b).drop a)).1 else 0:=by
  refine Zb (Zqk h h2) ?_
  refine Zb (Zfm pfx _ (by rcases hp with ⟨_,rfl⟩ | ⟨_,rfl⟩<;>decide)) ?_
  refine Zj (fun h3=>?_) fun h3=>?_
  ·rw [if_pos (show (ZfO pfx ((L.take b).drop a)).2=(((L.take b).drop a).length:Int) from h3)]
   exact Zd rfl
  ·rw [if_neg (show ¬ (ZfO pfx ((L.take b).drop a)).2=(((L.take b).drop a).length:Int) from h3)]
   exact Zd rfl
 rcases hp with ⟨rfl,rfl⟩ | ⟨rfl,rfl⟩
 ·exact ZaL (Zj (fun _=>body) fun h=>absurd rfl h)
 ·exact ZaL (Zj (fun h=>by cases h) fun _=>Zj (fun _=>body) fun h=>absurd rfl h)
theorem Zub {L:List UInt8} {i:Nat} {q:Int×Int} (hi:i≤L.length) (h:Zhe (L.drop i) q) (h0:¬ q.1=0):TokOK (bs L) ⟨q.1,(i:Int),(i:Int)+q.2⟩:=by
 have z:(bs L).size=L.length:=rfl
 have hlen:(L.drop i).length=L.length - i:=List.length_drop
 rcases h with h | ⟨_,⟨k1,k2⟩,k10,k11⟩
 ·exact absurd h h0
 have e2:(i:Int)+q.2=((i+q.2.toNat:Nat):Int):=by omega
 refine ⟨by dsimp only;omega,by dsimp only;omega,by dsimp only;omega,(fun h=>by have:=k10 h;dsimp only;omega),(fun h=>?_),(fun h=>?_)⟩
 ·obtain ⟨t1,t2⟩:=k11 h
  dsimp only at h
  rw [h,e2]
  refine ⟨_,Zsr (by omega) (by omega) [60] (.inl ⟨rfl,rfl⟩),?_⟩
  have e3:(L.take (i+q.2.toNat)).drop i=(L.drop i).take q.2.toNat:=by rw [List.drop_take];congr 1;omega
  obtain ⟨u1,u2⟩:=Zqj [60] (L.drop i) t1
  rw [← t2] at u1 u2
  rw [e3,u1,u2,if_pos (by omega)]
  rcases ZkB [60] (L.drop i) with u3 | u3
  ·rw [u3] at t1;cases t1
  ·exact u3.1
 ·dsimp only at h
  rw [h,e2]
  exact ⟨_,Zsr (by omega) (by omega) [60,47] (.inr ⟨rfl,rfl⟩)⟩
theorem Znp {L:List UInt8} {a b:Nat} (h:a≤b) (h2:b≤L.length):TokOK (bs L) ⟨1,(a:Int),(b:Int)⟩:=by
 have z:(bs L).size=L.length:=rfl
 exact ⟨by dsimp only;omega,by dsimp only;omega,by dsimp only;omega,(fun h=>by cases h),(fun h=>by cases h),(fun h=>by cases h)⟩
theorem ZrX (L:List UInt8):∀ (f st i:Nat),st≤i→i≤L.length→(∀ t ∈ Zb3 L f st i,TokOK (bs L) t)∧ZhJ (Zb3 L f st i)≤31 * (L.length - st):=by
 have fin:∀ st,st≤L.length→(∀ t ∈ (if st<L.length then [(⟨1,(st:Int),(L.length:Int)⟩:Tok)] else []),TokOK (bs L) t)∧ZhJ (if st<L.length then [(⟨1,(st:Int),(L.length:Int)⟩:Tok)] else [])≤31 * (L.length - st):=fun st hst=>by
  split
  ·refine ⟨fun t ht=>?_,?_⟩
   ·rw [List.mem_singleton.1 ht]
    exact Znp hst (Nat.le_refl _)
   ·simp only [ZhJ]
    omega
  ·exact ⟨(fun t ht=>by cases ht),Nat.zero_le _⟩
 intro f
 induction f with
 | zero=>exact fun st i h1 h2=>fin st (by omega)
 | succ f ih=>
   intro st i h1 h2
   rw [Zb3]
   by_cases hi:i<L.length
   ·rw [if_pos hi]
    have hok:=ZiP (L.drop i)
    have hlen:(L.drop i).length=L.length - i:=List.length_drop
    generalize hq:ZaD (L.drop i)=q at hok ⊢
    by_cases h0:q.1=0
    ·rw [if_pos h0]
     exact ih st (i+1) (by omega) (by omega)
    ·rw [if_neg h0]
     have ht:=Zub (Nat.le_of_lt hi) hok h0
     rcases hok with hok | ⟨_,⟨k1,k2⟩,_⟩
     ·exact absurd hok h0
     obtain ⟨r1,r2⟩:=ih (i+q.2.toNat) (i+q.2.toNat) (Nat.le_refl _) (by omega)
     refine ⟨fun t hm=>?_,?_⟩
     ·rcases List.mem_append.1 hm with hm | hm
      ·split at hm
       ·rw [List.mem_singleton.1 hm]
        exact Znp h1 (by omega)
       ·cases hm
      ·rcases List.mem_cons.1 hm with rfl | hm
       ·exact ht
       ·exact r1 t hm
     ·split
      ·simp only [List.singleton_append,ZhJ]
       omega
      ·simp only [List.nil_append,ZhJ]
       omega
   ·rw [if_neg hi]
    exact fin st (by omega)
theorem Zuc:∀ {l:List (List PV)} {w:Nat},LW false w l→∃ xs:List Node,l=xs.map Node.cs
 | [],w,_=>⟨[],rfl⟩
 | x::l,w,h=>by
   obtain ⟨n,wk,wa,wl,rfl,_,_,_,hl⟩:=h.node_inv
   obtain ⟨xs,rfl⟩:=Zuc hl
   exact ⟨n::xs,rfl⟩
theorem Zud:EW 20 ⟨0,0,0,[],none⟩:=EW.new (by decide) (by decide)
theorem Zql (L:List UInt8) (h:L.length≤8192):∃ l:List Node,ZcG (bs L)=some (l,0)∧LW false 300000 (l.map Node.cs):=by
 obtain ⟨h1,h2⟩:=ZrX L L.length 0 0 (Nat.le_refl _) (Nat.zero_le _)
 have hlen:(Zb3 L L.length 0 0).length≤ZhJ (Zb3 L L.length 0 0):=by
  generalize Zb3 L L.length 0 0=l
  induction l with
  | nil=>exact Nat.le_refl _
  | cons t l ih=>simp only [ZhJ,List.length_cons];omega
 obtain ⟨⟨e,r⟩,q1,q2,q3,q4⟩:=Zm0 (s:=bs L) (w:=20) (e:=⟨0,0,0,[],none⟩) (r:=[]) h1 Zud rfl (by simp) (by omega)
 obtain ⟨⟨z,r2⟩,p1,p2,p3,_⟩:=Zh3 r.length q2 (Nat.le_refl _) (by omega)
 dsimp only at p2 p3
 rw [List.drop_length] at p3
 subst p3
 obtain ⟨_,wl,wa,k1,k2,_⟩:=p2
 obtain ⟨xs,hxs⟩:=Zuc k2
 refine ⟨xs,?_,by rw [← hxs];exact k2.mono (by omega)⟩
 unfold ZcG ZmS
 rw [ZgF L h]
 show (((if (0:Int)=0 then (if (Zb3 L L.length 0 0).length≤4611686018427387904 then (Zcd (bs L) (Zb3 L L.length 0 0) ⟨0,0,0,[],none⟩ []).bind fun p=>(Zd6 p.2.length p.1 p.2).map fun z=>(z.1.list,(0:Int)) else none) else some ([],0)):Option (List (List PV)×Int)).bind fun q=>(Zbb q.1).map fun l=>(l,q.2))=_
 rw [if_pos rfl,if_pos (by omega),q1]
 show (((Zd6 r.length e r).map fun z=>(z.1.list,(0:Int))).bind fun q=>(Zbb q.1).map fun l=>(l,q.2))=_
 rw [p1]
 show (Zbb z.list).map (fun l=>(l,(0:Int)))=_
 rw [hxs,Zmx]
 rfl
theorem ZkG {L:List UInt8} {a b:Nat} (Inv:Nat→El→List El→Prop) (hb:b≤L.length) (hend:b<L.length→(ZaD (L.drop b)).1≠0)
  (hk:∀ i,a≤i→i<b→(ZaD (L.drop i)).1=0∨i+(ZaD (L.drop i)).2.toNat≤b)
  (hstep:∀ (k:Int) (p q:Nat) (e e':El) (r r':List El),a≤p→p<q→q≤b→(k=1∨(k≠0∧ZaD (L.drop p)=(k,((q - p:Nat):Int))))→Inv p e r→Zin (bs L) ⟨k,(p:Int),(q:Int)⟩ e r=some (e',r')→Inv q e' r') :
  ∀ (f st i:Nat) (e:El) (r:List El) (z:El×List El),a≤st→st≤i→i≤b→L.length≤i+f→Inv st e r→Zcd (bs L) (Zb3 L f st i) e r=some z→
   ∃ (f':Nat) (e':El) (r':List El),L.length≤b+f'∧Inv b e' r'∧Zcd (bs L) (Zb3 L f' b b) e' r'=some z:=by
 have text:∀ {st i:Nat} {e:El} {r:List El} {l:List Tok} {z:El×List El},a≤st→st≤i→i≤b→Inv st e r→Zcd (bs L) ((if st<i then [(⟨1,(st:Int),(i:Int)⟩:Tok)] else [])++l) e r=some z→∃ e' r',Inv i e' r'∧Zcd (bs L) l e' r'=some z:=fun {st i e r l z} h1 h2 h3 hI h=>by
  by_cases hl:st<i
  ·rw [if_pos hl] at h
   obtain ⟨⟨e1,r1⟩,q1,q2⟩:=Option.bind_eq_some_iff.1 (show (Zin (bs L) ⟨1,(st:Int),(i:Int)⟩ e r).bind (fun q=>Zcd (bs L) l q.1 q.2)=some z from h)
   exact ⟨e1,r1,hstep 1 st i e e1 r r1 h1 hl h3 (.inl rfl) hI q1,q2⟩
  ·rw [if_neg hl] at h
   obtain rfl:st=i:=by omega
   exact ⟨e,r,hI,h⟩
 have atEnd:∀ (f st:Nat) (e:El) (r:List El) (z:El×List El),a≤st→st≤b→L.length≤b+f→Inv st e r→Zcd (bs L) (Zb3 L f st b) e r=some z→∃ (f':Nat) (e':El) (r':List El),L.length≤b+f'∧Inv b e' r'∧Zcd (bs L) (Zb3 L f' b b) e' r'=some z:=fun f st e r z h1 h2 h3 hI h=>by
  by_cases hl:b<L.length
  ·obtain ⟨f,rfl⟩:∃ f',f=f'+1:=⟨f - 1,by omega⟩
   have e1:Zb3 L (f+1) b b=⟨(ZaD (L.drop b)).1,(b:Int),(b:Int)+(ZaD (L.drop b)).2⟩::Zb3 L f (b+(ZaD (L.drop b)).2.toNat) (b+(ZaD (L.drop b)).2.toNat):=by
    rw [Zb3,if_pos hl,if_neg (hend hl),if_neg (Nat.lt_irrefl b)]
    rfl
   rw [Zb3,if_pos hl,if_neg (hend hl)] at h
   obtain ⟨e',r',q1,q2⟩:=text h1 h2 (Nat.le_refl _) hI h
   exact ⟨f+1,e',r',h3,q1,by rw [e1];exact q2⟩
  ·have hbl:b=L.length:=by omega
   rw [ZgE hl,← hbl] at h
   have h':Zcd (bs L) ((if st<b then [(⟨1,(st:Int),(b:Int)⟩:Tok)] else []) ++ []) e r=some z:=by rw [List.append_nil];exact h
   obtain ⟨e',r',q1,q2⟩:=text h1 h2 (Nat.le_refl _) hI h'
   exact ⟨f,e',r',h3,q1,by rw [ZgE hl,if_neg (by omega)];exact q2⟩
 intro f
 induction f with
 | zero=>
   intro st i e r z h1 h2 h3 h4 hI h
   obtain rfl:i=b:=by omega
   exact atEnd 0 st e r z h1 h2 h4 hI h
 | succ f ih=>
   intro st i e r z h1 h2 h3 h4 hI h
   by_cases hi:i<b
   ·have hiL:i<L.length:=by omega
    have h':=h
    rw [Zb3,if_pos hiL] at h'
    by_cases h0:(ZaD (L.drop i)).1=0
    ·rw [if_pos h0] at h'
     exact ih st (i+1) e r z h1 (by omega) (by omega) (by omega) hI h'
    ·rw [if_neg h0] at h'
     obtain ⟨e1,r1,q1,q2⟩:=text h1 h2 (by omega) hI h'
     have hlen:(L.drop i).length=L.length - i:=List.length_drop
     have hlo:=(hk i (by omega) hi).resolve_left h0
     rcases ZiP (L.drop i) with hok | ⟨_,⟨k1,k2⟩,_⟩
     ·exact absurd hok h0
     obtain ⟨⟨e2,r2⟩,q3,q4⟩:=Option.bind_eq_some_iff.1 (show (Zin (bs L) ⟨(ZaD (L.drop i)).1,(i:Int),(i:Int)+(ZaD (L.drop i)).2⟩ e1 r1).bind (fun q=>Zcd (bs L) (Zb3 L f (i+(ZaD (L.drop i)).2.toNat) (i+(ZaD (L.drop i)).2.toNat)) q.1 q.2)=some z from q2)
     have e2':(i:Int)+(ZaD (L.drop i)).2=((i+(ZaD (L.drop i)).2.toNat:Nat):Int):=by omega
     rw [e2'] at q3
     have hn:(((i+(ZaD (L.drop i)).2.toNat - i:Nat)):Int)=(ZaD (L.drop i)).2:=by omega
     exact ih _ _ e2 r2 z (by omega) (Nat.le_refl _) hlo (by omega) (hstep _ i _ e1 e2 r1 r2 (by omega) (by omega) hlo (.inr ⟨h0,by rw [hn]⟩) q1 q3) q4
   ·obtain rfl:i=b:=by omega
    exact atEnd (f+1) st e r z h1 h2 h4 hI h
theorem ZlN {c:UInt8}:∀ (l:List UInt8) (n:Nat),l[n]?≠some c→ZhL c l≤n
 | [],n,_=>Nat.zero_le _
 | x::l,0,h=>by
   rw [Zez (fun hx=>h (by rw [hx];rfl))]
   exact Nat.le_refl _
 | x::l,n+1,h=>by
   by_cases hx:x=c
   ·rw [ZhZ hx]
    have:=ZlN l n (by simpa using h)
    omega
   ·rw [Zez hx]
    exact Nat.zero_le _
theorem Zno {c:UInt8}:∀ (l:List UInt8) (j:Nat),j<ZhL c l→l[j]? = some c
 | [],j,h=>by simp [ZhL] at h
 | x::l,0,h=>by
   by_cases hx:x=c
   ·rw [hx];rfl
   ·rw [Zez hx] at h;omega
 | x::l,j+1,h=>by
   by_cases hx:x=c
   ·rw [ZhZ hx] at h
    simpa using Zno l j (by omega)
   ·rw [Zez hx] at h;omega
def ZkH (L:List UInt8) (i:Nat) (k n:Int):Prop:=
 (k=3∧L[i]? = some 123)∨(k=4∧L[i]? = some 125)∨(k=5∧n=2∧L[i]? = some 91∧L[i+1]? = some 91)∨(k=6∧n=2∧L[i]? = some 93∧L[i+1]? = some 93)∨
 (k=7∧n=1∧L[i]? = some 124)∨(k=8∧n=1∧L[i]? = some 61)∨(k=2∧n=1∧L[i]? = some 10)
theorem ZmF {L:List UInt8} {i b:Nat} (hi:i<b) (hb:b≤L.length) (h60:L[i]?≠some 60) (hs:∀ c,L[i]? = some c→(c=123∨c=125∨c=91∨c=93)→L[b]?≠some c) :
  (ZaD (L.drop i)).1=0∨(i+(ZaD (L.drop i)).2.toNat≤b∧ZkH L i (ZaD (L.drop i)).1 (ZaD (L.drop i)).2):=by
 have hiL:i<L.length:=by omega
 have hc:L[i]? = some L[i]:=List.getElem?_eq_getElem hiL
 have hd:L.drop i=L[i]::L.drop (i+1):=List.drop_eq_getElem_cons hiL
 have run:∀ c,(c=123∨c=125∨c=91∨c=93)→L[i]=c→i+ZhL c (L.drop i)≤b:=fun c h1 h2=>by
  have:=ZlN (c:=c) (L.drop i) (b - i) (by
   rw [List.getElem?_drop,show i+(b - i)=b by omega]
   exact hs c (by rw [hc,h2]) h1)
  omega
 have two:∀ c,L[i]=c→2≤ZhL c (L.drop i)→L[i+1]? = some c:=fun c _ h2=>by
  have:=Zno (c:=c) (L.drop i) 1 (by omega)
  rwa [List.getElem?_drop] at this
 have e:ZaD (L.drop i)=Zi1 L[i] (L.drop i):=by rw [hd];rfl
 rw [e]
 have hcc:L[i]≠60:=fun h=>h60 (by rw [hc,h])
 generalize hx:L[i]=c at hcc hc run two
 unfold Zi1
 rw [if_neg hcc]
 split
 ·rename_i h1
  split
  ·rename_i h2
   have:=run c (.inl h1) rfl
   subst h1
   exact .inr ⟨by simpa using this,.inl ⟨rfl,hc⟩⟩
  ·exact .inl rfl
 split
 ·rename_i h1
  split
  ·rename_i h2
   have:=run c (.inr (.inl h1)) rfl
   subst h1
   exact .inr ⟨by simpa using this,.inr (.inl ⟨rfl,hc⟩)⟩
  ·exact .inl rfl
 split
 ·rename_i h1
  split
  ·rename_i h2
   have:=run c (.inr (.inr (.inl h1))) rfl
   have h3:=two c rfl (by rw [h1];exact h2)
   subst h1
   exact .inr ⟨by show i+2≤b;omega,.inr (.inr (.inl ⟨rfl,rfl,hc,h3⟩))⟩
  ·exact .inl rfl
 split
 ·rename_i h1
  split
  ·rename_i h2
   have:=run c (.inr (.inr (.inr h1))) rfl
   have h3:=two c rfl (by rw [h1];exact h2)
   subst h1
   exact .inr ⟨by show i+2≤b;omega,.inr (.inr (.inr (.inl ⟨rfl,rfl,hc,h3⟩)))⟩
  ·exact .inl rfl
 split
 ·rename_i h1
  subst h1
  exact .inr ⟨by show i+1≤b;omega,.inr (.inr (.inr (.inr (.inl ⟨rfl,rfl,hc⟩))))⟩
 split
 ·rename_i h1
  subst h1
  exact .inr ⟨by show i+1≤b;omega,.inr (.inr (.inr (.inr (.inr (.inl ⟨rfl,rfl,hc⟩)))))⟩
 split
 ·rename_i h1
  subst h1
  exact .inr ⟨by show i+1≤b;omega,.inr (.inr (.inr (.inr (.inr (.inr ⟨rfl,rfl,hc⟩)))))⟩
 ·exact .inl rfl
end Go.Proofs.YtmgfammllddkhaaGreatDoor

namespace Go.Proofs.YtmgfammllddkhaaGreatDoor
open VL
def txt (T:List UInt8):List (List PV):=if T = [] then [] else [Node.cs ⟨1,0,bs T,[],[]⟩]
def lk (k t:Int) (T:List UInt8):El:=⟨k,t,0,txt T,none⟩
theorem Zsl {s:List UInt8}:bs s=⟨#[]⟩↔s = []:=⟨fun h=>Zst (b:=[]) h,fun h=>by rw [h];rfl⟩
theorem ZpI {l l':List (List PV)} {n:Node} (h:Zg6 l n=some l'):l'=l ++ [n.cs]:=(Zck h).2.2
theorem ZpJ {T s:List UInt8} {l:List (List PV)} (hs:s≠[]) (h:Zky (txt T) (bs s)=some l):l=txt (T++s):=by
 have hT:txt (T++s) = [Node.cs ⟨1,0,bs (T++s),[],[]⟩]:=if_neg (by simp [hs])
 rw [hT]
 by_cases h0:T = []
 ·subst h0
  exact ZpI (show Zg6 [] ⟨1,0,bs s,[],[]⟩=some l from h)
 ·unfold txt at h
  rw [if_neg h0] at h
  obtain ⟨y,hy,rfl⟩:=Option.map_eq_some_iff.1 (show (Zi7 (bs T) (bs s)).map (fun y=>[] ++ [Node.cs ⟨1,0,y,[],[]⟩])=some l from h)
  unfold Zi7 at hy
  split at hy
  ·injection hy with hy
   rw [← hy,Zss]
   rfl
  ·cases hy
theorem ZhV {k t:Int} {T s:List UInt8} {e:El} (h:ZaY (lk k t T) (bs s)=some e):e=lk k t (T++s):=by
 unfold ZaY at h
 split at h
 ·rename_i h0
  rw [Zsl.1 h0,List.append_nil]
  injection h with h
  exact h.symm
 ·rename_i h0
  obtain ⟨l,h1,rfl⟩:=Option.map_eq_some_iff.1 h
  rw [ZpJ (fun h=>h0 (Zsl.2 h)) h1]
  rfl
theorem ZjK {e e':El} {T:List UInt8} (h:Zcl e (txt T)=some e'):ZaY e (bs T)=some e':=by
 unfold Zcl at h
 split at h
 ·by_cases h0:T = []
  ·subst h0
   unfold ZaY
   rw [if_pos (show bs []=⟨#[]⟩ from rfl)]
   exact h
  ·unfold txt at h
   rw [if_neg h0] at h
   obtain ⟨e1,h1,h2⟩:=Option.bind_eq_some_iff.1 (show (ZaY e (bs T)).bind (fun e'=>some e')=some e' from h)
   rw [← h2]
   exact h1
 ·cases h
structure Base (M:List UInt8→El→Prop):Prop where
 text:∀ {T s e e'},M T e→ZaY e (bs s)=some e'→M (T++s) e'
 bar:∀ {T e e'},M T e→ZoR e=some e'→M (T ++ [124]) e'
 equal:∀ {T e e'},M T e→ZfS e=some e'→M (T ++ [61]) e'
 kind:∀ {T e},M T e→e.kind≠1
theorem ZpK {k t:Int} (h1:k≠1) (h3:k≠3):Base fun T e=>e=lk k t T where
 text:=fun h1 h2=>by subst h1;exact ZhV h2
 bar:=fun h1 h2=>by
  subst h1
  unfold ZoR at h2
  rw [if_neg (show ¬ (lk k t _).kind=3 from h3)] at h2
  exact ZhV (s:=[124]) h2
 equal:=fun h1 h2=>by
  subst h1
  exact ZhV (s:=[61]) h2
 kind:=fun h=>by subst h;exact h1
inductive Co (M:List UInt8→El→Prop) (base:List El):List UInt8→El→List El→Prop
 | here {T:List UInt8} {e:El}:M T e→Co M base T e base
 | up {T T':List UInt8} {e:El} {r:List El}:Co M base T e r→Co M base (T ++ [91,91]++T') (lk 1 0 T') (e::r)
theorem Co.text {M:List UInt8→El→Prop} {base:List El} (B:Base M) {T s:List UInt8} {e e':El} {r:List El} (h:Co M base T e r) (ht:ZaY e (bs s)=some e'):Co M base (T++s) e' r:=by
 cases h with
 | here h1=>exact .here (B.text h1 ht)
 | @up T T' e2 r h1=>
   rw [ZhV ht,List.append_assoc]
   exact .up h1
theorem Co.texts {M:List UInt8→El→Prop} {base:List El} (B:Base M) {T s:List UInt8} {e:El} {r:List El} {q:El×List El} (h:Co M base T e r) (hq:((ZaY e (bs s)).map fun e'=>(e',r))=some q):Co M base (T++s) q.1 q.2:=by
 obtain ⟨e',h1,rfl⟩:=Option.map_eq_some_iff.1 hq
 exact h.text B h1
theorem Co.opened {M:List UInt8→El→Prop} {base:List El} (B:Base M) {T:List UInt8} {e:El} {r:List El} {q:El×List El} (h:Co M base T e r) (hq:Zim 1 0 0 (bs [91,91]) e r=some q):Co M base (T ++ [91,91]) q.1 q.2:=by
 unfold Zim at hq
 split at hq
 ·exact h.texts B hq
 ·injection hq with hq
  rw [← hq]
  have:=Co.up (T':=[]) h
  rwa [List.append_nil] at this
theorem Co.link {M:List UInt8→El→Prop} {base:List El} (B:Base M) {T:List UInt8} {e:El} {r:List El} {q:El×List El} (h:Co M base T e r) (hq:ZbU e r=some q):Co M base (T ++ [93,93]) q.1 q.2:=by
 cases h with
 | here h1=>
   unfold ZbU at hq
   rw [if_neg (B.kind h1)] at hq
   exact Co.texts B (s:=[93,93]) (.here h1) hq
 | @up T T' e2 r h1=>
   obtain ⟨a,k1,hq⟩:=Option.bind_eq_some_iff.1 (show ((ZaY e2 ⟨#[91,91]⟩).bind fun a=>(Zcl a (txt T')).bind fun b=>(ZaY b ⟨#[93,93]⟩).map fun c=>(c,r))=some q from hq)
   obtain ⟨b,k2,hq⟩:=Option.bind_eq_some_iff.1 hq
   obtain ⟨c,k3,rfl⟩:=Option.map_eq_some_iff.1 hq
   exact ((h1.text B (s:=[91,91]) k1).text B (ZjK k2)).text B (s:=[93,93]) k3
theorem Co.bar {M:List UInt8→El→Prop} {base:List El} (B:Base M) {T:List UInt8} {e e':El} {r:List El} (h:Co M base T e r) (hq:ZoR e=some e'):Co M base (T ++ [124]) e' r:=by
 cases h with
 | here h1=>exact .here (B.bar h1 hq)
 | @up T T' e2 r h1=>exact Co.text B (.up h1) (s:=[124]) hq
theorem Co.equal {M:List UInt8→El→Prop} {base:List El} (B:Base M) {T:List UInt8} {e e':El} {r:List El} (h:Co M base T e r) (hq:ZfS e=some e'):Co M base (T ++ [61]) e' r:=by
 cases h with
 | here h1=>exact .here (B.equal h1 hq)
 | @up T T' e2 r h1=>exact Co.text B (.up h1) (s:=[61]) hq
theorem Co.len {M:List UInt8→El→Prop} {base:List El} {T:List UInt8} {e:El} {r:List El} (h:Co M base T e r):base.length≤r.length:=by
 induction h with
 | here _=>exact Nat.le_refl _
 | up _ ih=>simp only [List.length_cons];omega
theorem Co.flat {M:List UInt8→El→Prop} {base:List El} (B:Base M):∀ (n:Nat) {T:List UInt8} {e e':El} {r r':List El},Co M base T e r→r.length=base.length+n→Zd6 n e r=some (e',r')→M T e'∧r'=base
 | 0,T,e,e',r,r',h,hn,hf=>by
   injection hf with hf
   injection hf with h1 h2
   rw [← h1,← h2]
   cases h with
   | here h1=>exact ⟨h1,rfl⟩
   | up hC=>
     exfalso
     have:=hC.len
     simp only [List.length_cons] at hn
     omega
 | n+1,T,e,e',[],r',h,hn,hf=>by cases hf
 | n+1,T,e,e',e2::r,r',h,hn,hf=>by
   obtain ⟨e3,h3,hf⟩:=Option.bind_eq_some_iff.1 hf
   cases h with
   | here h1=>omega
   | @up T T' e2 r h1=>
     obtain ⟨a,k1,h3⟩:=Option.bind_eq_some_iff.1 h3
     obtain ⟨b,k2,h3⟩:=Option.bind_eq_some_iff.1 h3
     have h4:b=e3:=by
      have:(some b:Option El)=some e3:=h3
      injection this
     subst h4
     have:=(h1.text B (s:=[91,91]) k1).text B (ZjK k2)
     exact Co.flat B n this (by simp only [List.length_cons] at hn;omega) hf
def sl (L:List UInt8) (a b:Nat):List UInt8:=(L.take b).drop a
theorem Zsm {L:List UInt8} {a b c:Nat} (h1:a≤b) (h2:b≤c):sl L a b++sl L b c=sl L a c:=by
 unfold sl
 rw [List.drop_take,List.drop_take,List.drop_take]
 have e:L.drop b=(L.drop a).drop (b - a):=by rw [List.drop_drop];congr 1;omega
 rw [e,← List.take_add]
 congr 1
 omega
theorem Znd {L:List UInt8} {p:Nat} {c:UInt8} (h:L[p]? = some c):sl L p (p+1) = [c]:=by
 obtain ⟨hl,he⟩:=List.getElem?_eq_some_iff.1 h
 unfold sl
 rw [List.drop_take,List.drop_eq_getElem_cons hl,he,show p+1 - p=1 by omega]
 rfl
theorem Zsn {L:List UInt8} {p:Nat} {c d:UInt8} (h:L[p]? = some c) (h2:L[p+1]? = some d):sl L p (p+2) = [c,d]:=by
 rw [← Zsm (Nat.le_succ p) (Nat.le_succ (p+1)),Znd h,Znd h2]
 rfl
theorem Co.take {M:List UInt8→El→Prop} {base:List El} (B:Base M) {L T:List UInt8} {k:Int} {p q:Nat} {e e':El} {r r':List El} (hpq:p<q) (hq:q≤L.length) (hk:k=1∨ZkH L p k ((q - p:Nat):Int)) (h3:k≠3) (h4:k≠4)
  (h:Co M base T e r) (ht:Zin (bs L) ⟨k,(p:Int),(q:Int)⟩ e r=some (e',r')):Co M base (T++sl L p q) e' r':=by
 have htx:ZbI (bs L) ⟨k,(p:Int),(q:Int)⟩=some (bs (sl L p q)):=Zqk (Nat.le_of_lt hpq) hq
 unfold Zin at ht
 rw [htx] at ht
 dsimp only [Option.bind_some] at ht
 rcases hk with rfl | hk | hk | ⟨rfl,hn,c1,c2⟩ | ⟨rfl,hn,c1,c2⟩ | ⟨rfl,hn,c1⟩ | ⟨rfl,hn,c1⟩ | ⟨rfl,hn,c1⟩
 ·exact h.texts B (q:=(e',r')) ht
 ·exact absurd hk.1 h3
 ·exact absurd hk.1 h4
 ·obtain rfl:q=p+2:=by omega
  rw [Zsn c1 c2] at ht ⊢
  exact h.opened B (q:=(e',r')) ht
 ·obtain rfl:q=p+2:=by omega
  rw [Zsn c1 c2]
  exact h.link B (q:=(e',r')) ht
 ·obtain rfl:q=p+1:=by omega
  rw [Znd c1]
  obtain ⟨x,h1,h2⟩:=Option.map_eq_some_iff.1 (show (ZoR e).map (fun e'=>(e',r))=some (e',r') from ht)
  injection h2 with h5 h6
  rw [← h5,← h6]
  exact h.bar B h1
 ·obtain rfl:q=p+1:=by omega
  rw [Znd c1]
  obtain ⟨x,h1,h2⟩:=Option.map_eq_some_iff.1 (show (ZfS e).map (fun e'=>(e',r))=some (e',r') from ht)
  injection h2 with h5 h6
  rw [← h5,← h6]
  exact h.equal B h1
 ·exact h.texts B (q:=(e',r')) ht
theorem Zpv {L:List UInt8} {l:List Node} (h:L.length≤8192) (hp:ZcG (bs L)=some (l,0)):∃ (p z:El×List El),Zcd (bs L) (Zb3 L L.length 0 0) (lk 0 0 []) []=some p∧Zd6 p.2.length p.1 p.2=some z∧z.1.list=l.map Node.cs:=by
 obtain ⟨⟨l',n⟩,h1,h2⟩:=Option.bind_eq_some_iff.1 hp
 obtain ⟨xs,h3,h4⟩:=Option.map_eq_some_iff.1 h2
 injection h4 with h4 h5
 subst h4 h5
 unfold ZmS at h1
 rw [ZgF L h] at h1
 dsimp only [Option.bind_some] at h1
 rw [if_pos rfl] at h1
 split at h1
 ·obtain ⟨p,h6,h7⟩:=Option.bind_eq_some_iff.1 h1
  obtain ⟨z,h8,h9⟩:=Option.map_eq_some_iff.1 h7
  injection h9 with h9 _
  subst h9
  exact ⟨p,z,h6,h8,ZcO h3⟩
 ·cases h1
theorem Zpw {L:List UInt8} {f i:Nat} {e:El} {r:List El} {z:El×List El} (hi:L.length≤i) (h:Zcd (bs L) (Zb3 L f i i) e r=some z):z=(e,r):=by
 rw [ZgE (by omega),if_neg (by omega)] at h
 injection h with h
 exact h.symm
theorem ZtS (A B C:List UInt8):sl (A++(B++C)) A.length (A.length+B.length)=B:=by
 unfold sl
 rw [← List.append_assoc,← List.length_append,List.take_left,List.drop_left]
theorem ZsU {s sub:List UInt8} {j:Nat} (h:Lib.occAt s sub j=true) {k:Nat} {c:UInt8} (hk:sub[k]? = some c):s[j+k]? = some c:=by
 obtain ⟨r,hr⟩:=List.isPrefixOf_iff_prefix.1 (show sub.isPrefixOf (s.drop j)=true from h)
 have:(s.drop j)[k]? = some c:=by
  rw [← hr,List.getElem?_append_left (List.getElem?_eq_some_iff.1 hk).1]
  exact hk
 rwa [List.getElem?_drop] at this
theorem Zqg:∀ {a b:List Node},a.map Node.cs=b.map Node.cs→a=b
 | [],[],_=>rfl
 | [],b::l,h=>by cases h
 | a::l,[],h=>by cases h
 | a::l,b::m,h=>by
   rw [List.map_cons,List.map_cons] at h
   injection h with h1 h2
   rw [ZqS h1,Zqg h2]
theorem ZrV {A B L:List UInt8} (h:L=A++B):L.drop A.length=B:=by
 rw [h,List.drop_left]
theorem ZuL {L:List UInt8} {A s B:List UInt8} (hL:L=A++(s++B)) {i:Nat} (h1:A.length≤i) (h2:i<A.length+s.length):∃ c ∈ s,L[i]? = some c:=by
 have h3:i - A.length<s.length:=by omega
 refine ⟨s[i - A.length],List.getElem_mem h3,?_⟩
 rw [hL,List.getElem?_append_right h1,List.getElem?_append_left h3,List.getElem?_eq_getElem h3]
theorem Zua {L:List UInt8} {A s B:List UInt8} (hL:L=A++(s++B)):L[A.length+s.length]? = B[0]?:=by
 rw [hL,← List.append_assoc,List.getElem?_append_right (by simp)]
 congr 1
 simp
theorem ZjY {M:List UInt8→El→Prop} {base:List El} (B:Base M) {L A s R:List UInt8} (hL:L=A++(s++R)) (hs:∀ c ∈ s,c≠60∧c≠123∧c≠125) (hR:R[0]?≠some 91∧R[0]?≠some 93) (hend:R≠[]→(ZaD R).1≠0)
  {f:Nat} {e:El} {r:List El} {z:El×List El} {T:List UInt8} (hf:L.length≤A.length+f) (hI:Co M base T e r) (h:Zcd (bs L) (Zb3 L f A.length A.length) e r=some z) :
  ∃ (f':Nat) (e':El) (r':List El),L.length≤A.length+s.length+f'∧Co M base (T++s) e' r'∧Zcd (bs L) (Zb3 L f' (A.length+s.length) (A.length+s.length)) e' r'=some z:=by
 have hlen:L.length=A.length+s.length+R.length:=by rw [hL];simp only [List.length_append];omega
 have hlA:(A++s).length=A.length+s.length:=List.length_append
 have hat:L[A.length+s.length]? = R[0]?:=Zua hL
 have hdr:L.drop (A.length+s.length)=R:=by rw [← hlA];exact ZrV (by rw [hL,List.append_assoc])
 have pl:∀ i,A.length≤i→i<A.length+s.length→(ZaD (L.drop i)).1=0∨(i+(ZaD (L.drop i)).2.toNat≤A.length+s.length∧ZkH L i (ZaD (L.drop i)).1 (ZaD (L.drop i)).2∧(ZaD (L.drop i)).1≠3∧(ZaD (L.drop i)).1≠4):=fun i h1 h2=>by
  obtain ⟨c,hcm,hcl⟩:=ZuL hL h1 h2
  obtain ⟨q1,q2,q3⟩:=hs c hcm
  rcases ZmF (L:=L) h2 (by omega) (by rw [hcl];intro h;injection h with h;exact q1 h) (fun d h4 h5=>by
   rw [hcl] at h4
   injection h4 with h4
   subst h4
   rw [hat]
   rcases h5 with h5 | h5 | h5 | h5
   ·exact absurd h5 q2
   ·exact absurd h5 q3
   ·rw [h5];exact hR.1
   ·rw [h5];exact hR.2) with h6 | ⟨h6,h7⟩
  ·exact .inl h6
  ·refine .inr ⟨h6,h7,fun h8=>?_,fun h8=>?_⟩
   ·rcases h7 with h7 | h7 | h7 | h7 | h7 | h7 | h7
    ·rw [hcl] at h7
     have:=h7.2
     injection this with this
     exact q2 this
    all_goals omega
   ·rcases h7 with h7 | h7 | h7 | h7 | h7 | h7 | h7
    ·omega
    ·rw [hcl] at h7
     have:=h7.2
     injection this with this
     exact q3 this
    all_goals omega
 obtain ⟨f',e',r',g1,g2,g3⟩:=ZkG (a:=A.length) (b:=A.length+s.length) (fun p e r=>Co M base (T++sl L A.length p) e r) (by omega)
  (fun hl=>by rw [hdr];exact hend (fun h=>by rw [h] at hlen;simp only [List.length_nil] at hlen;omega))
  (fun i h1 h2=>by
   rcases pl i h1 h2 with h3 | h3
   ·exact .inl h3
   ·exact .inr h3.1)
  (fun k p q e e' r r' k1 k2 k3 k4 k5 k6=>by
   have:T++sl L A.length q=T++sl L A.length p++sl L p q:=by rw [List.append_assoc,Zsm k1 (Nat.le_of_lt k2)]
   rw [this]
   rcases k4 with k4 | ⟨k4,k7⟩
   ·subst k4
    exact Co.take B k2 (by omega) (.inl rfl) (by decide) (by decide) k5 k6
   ·rcases pl p k1 (by omega) with h6 | ⟨_,h7,h8,h9⟩
    ·rw [k7] at h6
     exact absurd h6 k4
    ·rw [k7] at h7 h8 h9
     exact Co.take B k2 (by omega) (.inr h7) h8 h9 k5 k6)
  f _ _ _ _ _ (Nat.le_refl _) (Nat.le_refl _) (by omega) hf (by
   have:sl L A.length A.length = []:=by unfold sl;rw [List.drop_take,Nat.sub_self,List.take_zero]
   rw [this,List.append_nil]
   exact hI) h
 refine ⟨f',e',r',g1,?_,g3⟩
 have:sl L A.length (A.length+s.length)=s:=by rw [hL];exact ZtS A s R
 rw [this] at g2
 exact g2
def Zh7 (s:List UInt8):Prop:=∀ c ∈ s,c≠60∧c≠123∧c≠125
def ZqF (T:List UInt8):List Node:=if T = [] then [] else [⟨1,0,bs T,[],[]⟩]
theorem Zsv (T:List UInt8):txt T=(ZqF T).map Node.cs:=by
 unfold txt ZqF
 split<;>rfl
theorem Zl5 (s:List UInt8) (h:Zh7 s) (hs:s.length≤8192):ZcG (bs s)=some (ZqF s,0):=by
 obtain ⟨l,hl,_⟩:=Zql s hs
 obtain ⟨p,z,h1,h2,h3⟩:=Zpv hs hl
 obtain ⟨f,e,r,g1,g2,g3⟩:=ZjY (ZpK (k:=0) (t:=0) (by decide) (by decide)) (L:=s) (A:=[]) (s:=s) (R:=[]) (T:=[]) (by simp) h ⟨by simp,by simp⟩ (fun h=>absurd rfl h) (by simp) (.here rfl) h1
 have hz:=Zpw (by simp) g3
 subst hz
 obtain ⟨z1,z2⟩:=z
 obtain ⟨g4,_⟩:=Co.flat (ZpK (k:=0) (t:=0) (by decide) (by decide)) _ g2 (by simp) h2
 dsimp only at g4 h3
 subst g4
 rw [hl]
 congr 2
 refine Zqg ?_
 rw [← Zsv,← h3]
 rfl
end Go.Proofs.YtmgfammllddkhaaGreatDoor

namespace Go.Proofs.YtmgfammllddkhaaGreatDoor
open VL Go.RowKit
def strings_Compare (a b:ByteArray):Option Int:=some (Lib.compareBytes a.data.toList b.data.toList)
theorem Zg2 (a b:ByteArray) (r:Int) (h:strings_Compare a b=some r):Zn Tryz.prog 71 [.str a,.str b] (.int .i64 r):=by
 unfold strings_Compare at h
 cases h
 exact Zaw (vals:=[.string a,.string b]) (by kernel_rfl) rfl rfl (fun x=>.int _ _) fun w hw=>(ZjQ a b w).mono fun e w' ⟨h1,h2⟩=>⟨h1,by rw [← h2];exact Below.refl _ _⟩
end Go.Proofs.YtmgfammllddkhaaGreatDoor
