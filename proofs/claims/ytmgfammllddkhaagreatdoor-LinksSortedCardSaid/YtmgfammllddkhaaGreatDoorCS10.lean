/- The parser's take: what a token does. | The parser's take, walked. | The parser's Parse. | tree.Plain: a list of nodes that is plain text. | Functions of the program as Lean functions. Written by fxgen.py. | A function that hands back a copy of a slice of plain cells. No program is named. | strings.Compare, as the others are written. -/
import Derived.Test.YtmgfammllddkhaaGreatDoorCS09
import Derived.Test.YtmgfammllddkhaaGreatDoorCS04
import Derived.Test.YtmgfammllddkhaaGreatDoorCS03
import Derived.Test.YtmgfammllddkhaaGreatDoorCS08
import Derived.Test.YtmgfammllddkhaaGreatDoorCS06
namespace Go.Proofs.YtmgfammllddkhaaGreatDoor
open VL
def ZkI (k t c:Int) (x:ByteArray) (e:El) (r:List El):Option (El×List El):=if 20≤r.length then (Zby e x).map fun e'=>(e',r) else some (⟨k,t,c,[],none⟩,e::r)
def Zs7 (e:El):Option El:=if e.kind=3 then match e.args with
  | none=>some ⟨e.kind,e.tag,e.count,e.list,some ([],⟨false,[],[]⟩)⟩
  | some (pre,a)=>if pre.length+1≤1000000 then some ⟨e.kind,e.tag,e.count,e.list,some (pre ++ [a],⟨false,[],[]⟩)⟩ else none
 else Zby e ⟨#[124]⟩
def Zn9 (s:ByteArray) (t:Tok) (e:El) (r:List El):Option (El×List El):=(Zb4 s t).bind fun x=>
 if t.kind=1∨t.kind=2 then (Zby e x).map fun e'=>(e',r)
 else if t.kind=9 then (Zf9 e ⟨2,0,x,[],[]⟩).map fun e'=>(e',r)
 else if t.kind=10 then (ZfP x 8 (w64 ((x.size:Int) - 9))).bind fun y=>(Zf9 e ⟨3,0,y,[],[]⟩).map fun e'=>(e',r)
 else if t.kind=3 then ZkI 3 0 x.size x e r
 else if t.kind=5 then ZkI 1 0 0 x e r
 else if t.kind=11 then (Zdc s t).bind fun k=>ZkI 2 k 0 x e r
 else if t.kind=7 then (Zs7 e).map fun e'=>(e',r)
 else if t.kind=8 then (Zix e).map fun e'=>(e',r)
 else if t.kind=6 then ZcP e r
 else if t.kind=12 then (Zdc s t).bind fun k=>Zd9 k x e r
 else if t.kind=4 then ZaK (x.size+1) x.size e r
 else some (e,r)
theorem Zvb (e e':El) (r:List El) (hf:fit e r) (h:Zs7 e=some e'):PC 106 [] e r (.tup []) e' r:=by
 unfold Zs7 at h
 split at h
 ·rename_i hk
  obtain ⟨kind,tag,count,list,args⟩:=e
  dsimp only at hk
  subst hk
  rcases args with _ | ⟨pre,a⟩
  ·injection h with h
   rw [← h]
   exact Zre tag count list r hf.1.1
  ·dsimp only at h
   split at h
   ·injection h with h
    rw [← h]
    exact Zrg tag count list pre a r hf.1
   ·cases h
 ·rename_i hk
  exact Zrd e e' r hf.1 hf.2 hk h
theorem Zrv {e e':El} {r:List El} (hf:fit e r) (h:Zs7 e=some e'):fit e' r:=by
 unfold Zs7 at h
 split at h
 ·rename_i hk
  obtain ⟨kind,tag,count,list,args⟩:=e
  dsimp only at hk
  subst hk
  rcases args with _ | ⟨pre,a⟩
  ·injection h with h
   rw [← h]
   exact ⟨⟨hf.1.1,fun q hq=>by injection hq with hq;rw [← hq];exact Nat.zero_le _⟩,by show 0≤_;omega⟩
  ·dsimp only at h
   split at h
   ·rename_i hp
    injection h with h
    rw [← h]
    exact ⟨⟨hf.1.1,fun q hq=>by injection hq with hq;rw [← hq];simpa using hp⟩,by show 0≤_;omega⟩
   ·cases h
 ·exact Zaj hf h
theorem Zs8 (e e':El) (r:List El) (hf:fit e r) (h:Zix e=some e'):PC 107 [] e r (.tup []) e' r:=by
 obtain ⟨kind,tag,count,list,args⟩:=e
 unfold Zix at h
 rcases args with _ | ⟨pre,⟨named,name,value⟩⟩
 ·exact ZjT _ e' r hf.1 hf.2 (.inr (.inl rfl)) h
 ·dsimp only at h
  split at h
  ·rename_i hc
   obtain ⟨h1,h2⟩:=hc
   subst h1 h2
   injection h with h
   rw [← h]
   exact Zo6 tag count list pre name value r hf.1
  ·rename_i hc
   refine ZjT _ e' r hf.1 hf.2 ?_ h
   by_cases hk:kind=3
   ·refine .inr (.inr ⟨pre,_,rfl,?_⟩)
    cases named
    ·exact absurd ⟨hk,rfl⟩ hc
    ·rfl
   ·exact .inl hk
theorem Zoa {e e':El} {r:List El} (hf:fit e r) (h:Zix e=some e'):fit e' r:=by
 obtain ⟨kind,tag,count,list,args⟩:=e
 unfold Zix at h
 rcases args with _ | ⟨pre,⟨named,name,value⟩⟩
 ·exact Zaj hf h
 ·dsimp only at h
  split at h
  ·rename_i hc
   obtain ⟨h1,h2⟩:=hc
   subst h1 h2
   injection h with h
   rw [← h]
   exact ⟨⟨hf.1.1,fun q hq=>by injection hq with hq;rw [← hq];exact hf.1.2 (pre,⟨false,name,value⟩) rfl⟩,by show 0≤_;omega⟩
  ·exact Zaj hf h
theorem ZmH (e e':El) (r r':List El) (hf:fits e r) (h:ZcP e r=some (e',r')):PC 108 [] e r (.tup []) e' r':=by
 unfold ZcP at h
 split at h
 ·rename_i hk
  rcases r with _ | ⟨e2,r⟩
  ·cases h
  obtain ⟨a,h1,h⟩:=Option.bind_eq_some_iff.1 h
  obtain ⟨b,h2,h⟩:=Option.bind_eq_some_iff.1 h
  obtain ⟨c,h3,h⟩:=Option.map_eq_some_iff.1 h
  injection h with q1 q2
  subst q1 q2
  obtain ⟨kind,tag,count,list,args⟩:=e
  dsimp only at hk
  subst hk
  exact ZkC tag count list args e2 a b c r (ZaC hf).1 (Zag (ZaC hf)) h1 h2 h3
 ·rename_i hk
  obtain ⟨c,h3,h⟩:=Option.map_eq_some_iff.1 h
  injection h with q1 q2
  subst q1 q2
  exact ZjB e c r (Zag hf) hk h3
theorem ZiO {e e':El} {r r':List El} (hf:fits e r) (h:ZcP e r=some (e',r')):fits e' r':=by
 unfold ZcP at h
 split at h
 ·rcases r with _ | ⟨e2,r⟩
  ·cases h
  obtain ⟨a,h1,h⟩:=Option.bind_eq_some_iff.1 h
  obtain ⟨b,h2,h⟩:=Option.bind_eq_some_iff.1 h
  obtain ⟨c,h3,h⟩:=Option.map_eq_some_iff.1 h
  injection h with q1 q2
  subst q1 q2
  exact Zbx (ZaC hf) (Zaj (ZcO (Zaj (Zag (ZaC hf)) h1) h2) h3)
 ·obtain ⟨c,h3,h⟩:=Option.map_eq_some_iff.1 h
  injection h with q1 q2
  subst q1 q2
  exact Zbx hf (Zaj (Zag hf) h3)
theorem ZjC {k:Int} {s:ByteArray} {e e':El} {r r':List El} (hf:fits e r) (h:Zd9 k s e r=some (e',r')):fits e' r':=by
 unfold Zd9 at h
 split at h
 ·obtain ⟨c,h3,h⟩:=Option.map_eq_some_iff.1 h
  injection h with q1 q2
  subst q1 q2
  exact Zbx hf (Zaj (Zag hf) h3)
 ·obtain ⟨⟨e1,r1⟩,h1,h⟩:=Option.bind_eq_some_iff.1 h
  have hf1:=Zfb hf h1
  rcases r1 with _ | ⟨e2,r2⟩
  ·cases h
  obtain ⟨c,h3,h⟩:=Option.map_eq_some_iff.1 h
  injection h with q1 q2
  subst q1 q2
  exact Zbx (ZaC hf1) (ZeW (Zag (ZaC hf1)) h3)
theorem Zls {c:Int} {e e':El} {r r':List El} (hf:fits e r) (h:Zt0 c e r=some (e',r')):fits e' r':=by
 obtain ⟨s,hs,h⟩:=Option.bind_eq_some_iff.1 h
 obtain ⟨a,h3,h⟩:=Option.map_eq_some_iff.1 h
 injection h with q1 q2
 subst q1 q2
 exact Zbx hf (Zaj (Zag hf) h3)
theorem ZcR:∀ {f:Nat} {c:Int} {e e':El} {r r':List El},fits e r→ZaK f c e r=some (e',r')→fits e' r'
 | 0,c,e,e',r,r',hf,h=>by cases h
 | f+1,c,e,e',r,r',hf,h=>by
   unfold ZaK at h
   split at h
   ·split at h
    ·exact Zls hf h
    ·obtain ⟨⟨e1,r1⟩,h1,h⟩:=Option.bind_eq_some_iff.1 h
     have hf1:=Zfb hf h1
     split at h
     ·split at h
      ·exact ZcR (Zbx hf1 ⟨⟨by have:=hf1.1;omega,fun q hq=>by cases hq⟩,by show 1≤9223372036854775807;omega⟩) h
      ·rcases r1 with _ | ⟨e2,r2⟩
       ·cases h
       obtain ⟨e4,h4,h⟩:=Option.bind_eq_some_iff.1 h
       exact ZcR (Zbx (ZaC hf1) (Zir (Zag (ZaC hf1)) h4)) h
     ·cases h
   ·exact Zls hf h
theorem Zhl {k t c:Int} {x:ByteArray} {e e':El} {r r':List El} (hf:fits e r) (h:ZkI k t c x e r=some (e',r')):fits e' r':=by
 unfold ZkI at h
 split at h
 ·obtain ⟨a,h3,h⟩:=Option.map_eq_some_iff.1 h
  injection h with q1 q2
  subst q1 q2
  exact Zbx hf (Zaj (Zag hf) h3)
 ·injection h with h
  injection h with q1 q2
  subst q1 q2
  refine ⟨by simp;omega,fun x hx=>?_⟩
  rcases List.mem_cons.1 hx with rfl | hx
  ·exact ⟨fun q hq=>(by cases hq),(by show 0≤_;omega)⟩
  ·exact hf.2 x hx
theorem Zpu (k t c:Int) (x:ByteArray) (e e':El) (r r':List El) (hf:fits e r) (h:ZkI k t c x e r=some (e',r')) :
  ContractG Tryz.prog 104 [.ptr 0 (0,0) 0,.ptr 1 (0,1) 0,.str x] (objs (stP νa e r)++Zod k t c) (.tup []) (stP νb e' r' ++ []):=by
 rw [List.append_nil]
 unfold ZkI at h
 split at h
 ·rename_i hr
  obtain ⟨a,h3,h⟩:=Option.map_eq_some_iff.1 h
  injection h with q1 q2
  subst q1 q2
  exact Zpw e a r k t c x hr (Zag hf).1 (Zag hf).2 h3
 ·rename_i hr
  injection h with h
  injection h with q1 q2
  subst q1 q2
  exact Zpx e r k t c x (by omega)
theorem ZjY {s:ByteArray} {t:Tok} {e e':El} {r r':List El} (hf:fits e r) (h:Zn9 s t e r=some (e',r')):fits e' r':=by
 obtain ⟨x,hx,h⟩:=Option.bind_eq_some_iff.1 h
 have one:∀ {o:Option El},(∀ a,o=some a→fit a r)→o.map (fun e'=>(e',r))=some (e',r')→fits e' r':=fun h1 h=>by
  obtain ⟨a,h3,h⟩:=Option.map_eq_some_iff.1 h
  injection h with q1 q2
  subst q1 q2
  exact Zbx hf (h1 a h3)
 split at h
 ·exact one (fun a ha=>Zaj (Zag hf) ha) h
 split at h
 ·exact one (fun a ha=>ZeW (Zag hf) ha) h
 split at h
 ·obtain ⟨y,hy,h⟩:=Option.bind_eq_some_iff.1 h
  exact one (fun a ha=>ZeW (Zag hf) ha) h
 split at h
 ·exact Zhl hf h
 split at h
 ·exact Zhl hf h
 split at h
 ·obtain ⟨y,hy,h⟩:=Option.bind_eq_some_iff.1 h
  exact Zhl hf h
 split at h
 ·exact one (fun a ha=>Zrv (Zag hf) ha) h
 split at h
 ·exact one (fun a ha=>Zoa (Zag hf) ha) h
 split at h
 ·exact ZiO hf h
 split at h
 ·obtain ⟨y,hy,h⟩:=Option.bind_eq_some_iff.1 h
  exact ZjC hf h
 split at h
 ·exact ZcR hf h
 ·injection h with h
  injection h with q1 q2
  subst q1 q2
  exact hf
set_option maxRecDepth 100000 in
set_option maxHeartbeats 2000000 in
theorem Zui (s:ByteArray) (t:Tok) (e e':El) (r r':List El) (hf:fits e r) (h:Zn9 s t e r=some (e',r')):PC 63 [.str s,t.pv] e r (.tup []) e' r':=by
 have hft:=Zag hf
 obtain ⟨x,hx,h⟩:=Option.bind_eq_some_iff.1 h
 obtain ⟨tk,tf,tt⟩:=t
 refine Zz mix Tryz.func63 (by kernel_rfl) rfl (by kernel_rfl) ?_
 rw [ZbZ]
 repeat (first | (refine Zff (ZhO _ _ _ hx) rfl rfl ?_) | refine Zn rfl (by (conv=>lhs;whnf);try rfl) ?_ | refine ZB rfl rfl rfl ?_ | refine Zi rfl rfl ?_ | refine Zp rfl (by (conv=>lhs;whnf);try rfl) ?_ | refine ZT rfl rfl rfl rfl (by (conv=>lhs;whnf);try rfl) ?_ | refine ZjD rfl (by (conv=>lhs;whnf);try rfl) (by (conv=>lhs;whnf);try rfl) (by rfl) ?_ | refine Zc ?_ | refine Zh ?_ | refine Za ?_ | refine Zai ?_)
 by_cases h1:tk=1
 ·subst h1
  rw [if_pos (show (1:Int)=1∨(1:Int)=2 by decide)] at h
  obtain ⟨a,ha,h⟩:=Option.map_eq_some_iff.1 h
  injection h with q1 q2
  subst q1 q2
  repeat (first | (refine Zr rfl rfl ?_) | (refine Zw [_] νa (ZbQ e r x hft.1 hft.2 a ha) rfl rfl rfl rfl rfl rfl ?_) | refine Zn rfl (by (conv=>lhs;whnf);try rfl) ?_ | refine Zc ?_ | refine Za ?_ | refine ZA ?_ | refine Zx ?_ | refine ZQ ?_)
  exact Zbt (.inr rfl) (νc _ _) [_] [] rfl rfl trivial rfl rfl
 by_cases h2:tk=2
 ·subst h2
  rw [if_pos (show (2:Int)=1∨(2:Int)=2 by decide)] at h
  obtain ⟨a,ha,h⟩:=Option.map_eq_some_iff.1 h
  injection h with q1 q2
  subst q1 q2
  repeat (first | (refine Zr rfl rfl ?_) | (refine Zg rfl rfl ?_) | (refine Zw [_] νa (ZbQ e r x hft.1 hft.2 a ha) rfl rfl rfl rfl rfl rfl ?_) | refine Zn rfl (by (conv=>lhs;whnf);try rfl) ?_ | refine Zp rfl (by (conv=>lhs;whnf);try rfl) ?_ | refine ZT rfl rfl rfl rfl (by (conv=>lhs;whnf);try rfl) ?_ | refine Zc ?_ | refine Za ?_ | refine Zx ?_ | refine ZQ ?_)
  exact Zbt (.inr rfl) (νc _ _) [_] [] rfl rfl trivial rfl rfl
 by_cases h9:tk=9
 ·subst h9
  rw [if_neg (show ¬ ((9:Int)=1∨(9:Int)=2) by decide)] at h
  rw [if_pos (show (9:Int)=9 by decide)] at h
  obtain ⟨a,ha,h⟩:=Option.map_eq_some_iff.1 h
  injection h with q1 q2
  subst q1 q2
  repeat (first | (refine Zr rfl rfl ?_) | (refine Zg rfl rfl ?_) | (refine Zw [_] νa (Zqq e a r 2 0 x hft.1 ha) rfl rfl rfl rfl rfl rfl ?_) | refine Zn rfl (by (conv=>lhs;whnf);try rfl) ?_ | refine Zp rfl (by (conv=>lhs;whnf);try rfl) ?_ | refine ZT rfl rfl rfl rfl (by (conv=>lhs;whnf);try rfl) ?_ | refine Zbr rfl rfl ?_ | refine Zc ?_ | refine Zh ?_ | refine Za ?_ | refine Zx ?_ | refine ZQ ?_)
  exact Zbt (.inr rfl) (νc _ _) [_] [] rfl rfl trivial rfl rfl
 by_cases h10:tk=10
 ·subst h10
  rw [if_neg (show ¬ ((10:Int)=1∨(10:Int)=2) by decide)] at h
  rw [if_neg (show ¬ (10:Int)=9 by decide)] at h
  rw [if_pos (show (10:Int)=10 by decide)] at h
  obtain ⟨y,hy,h⟩:=Option.bind_eq_some_iff.1 h
  obtain ⟨a,ha,h⟩:=Option.map_eq_some_iff.1 h
  injection h with q1 q2
  subst q1 q2
  repeat (first | (refine Zr rfl rfl ?_) | (refine Zg rfl rfl ?_) | (refine Zlh StrT.eq rfl hy rfl rfl rfl ?_) | (refine Zw [_] νa (Zqq e a r 3 0 y hft.1 ha) rfl rfl rfl rfl rfl rfl ?_) | refine Zn rfl (by (conv=>lhs;whnf);try rfl) ?_ | refine Zp rfl (by (conv=>lhs;whnf);try rfl) ?_ | refine ZT rfl rfl rfl rfl (by (conv=>lhs;whnf);try rfl) ?_ | refine Zfq Tryz.underlying9 rfl rfl ?_ | refine Zbr rfl rfl ?_ | refine Zc ?_ | refine Zh ?_ | refine Za ?_ | refine Zx ?_ | refine ZQ ?_)
  exact Zbt (.inr rfl) (νc _ _) [_] [] rfl rfl trivial rfl rfl
 by_cases h3:tk=3
 ·subst h3
  rw [if_neg (show ¬ ((3:Int)=1∨(3:Int)=2) by decide)] at h
  rw [if_neg (show ¬ (3:Int)=9 by decide)] at h
  rw [if_neg (show ¬ (3:Int)=10 by decide)] at h
  rw [if_pos (show (3:Int)=3 by decide)] at h
  repeat (first | (refine Zr rfl rfl ?_) | (refine Zg rfl rfl ?_) | refine Zn rfl (by (conv=>lhs;whnf);try rfl) ?_ | refine Zp rfl (by (conv=>lhs;whnf);try rfl) ?_ | refine ZT rfl rfl rfl rfl (by (conv=>lhs;whnf);try rfl) ?_ | refine Zfq Tryz.underlying9 rfl rfl ?_ | refine ZjD rfl (by (conv=>lhs;whnf);try rfl) (by (conv=>lhs;whnf);try rfl) (by rfl) ?_ | refine Zbr rfl rfl ?_ | refine Zc ?_ | refine Zh ?_ | refine Za ?_)
  refine ZkK (xin:=Zod _ _ _) (ext:=[]) (ext2:=[]) [_,_] νa (fun _=>40) (fun _=>(9,4)) (Zpu 3 0 x.size x e e' r r' hf h) rfl rfl rfl rfl (List.mem_cons_self ..) ⟨⟨_,rfl,rfl⟩,trivial⟩ (fun _ _=>⟨_,List.mem_cons_of_mem _ (List.mem_cons_self ..)⟩) rfl rfl rfl rfl ?_
  repeat (first | refine Zc ?_ | refine Zx ?_ | refine ZQ ?_)
  exact Zbt (.inr rfl) (νc _ _) [_,_,_] [] rfl rfl trivial rfl rfl
 by_cases h5:tk=5
 ·subst h5
  rw [if_neg (show ¬ ((5:Int)=1∨(5:Int)=2) by decide)] at h
  rw [if_neg (show ¬ (5:Int)=9 by decide)] at h
  rw [if_neg (show ¬ (5:Int)=10 by decide)] at h
  rw [if_neg (show ¬ (5:Int)=3 by decide)] at h
  rw [if_pos (show (5:Int)=5 by decide)] at h
  repeat (first | (refine Zr rfl rfl ?_) | (refine Zg rfl rfl ?_) | refine Zn rfl (by (conv=>lhs;whnf);try rfl) ?_ | refine Zp rfl (by (conv=>lhs;whnf);try rfl) ?_ | refine ZT rfl rfl rfl rfl (by (conv=>lhs;whnf);try rfl) ?_ | refine ZjD rfl (by (conv=>lhs;whnf);try rfl) (by (conv=>lhs;whnf);try rfl) (by rfl) ?_ | refine Zbr rfl rfl ?_ | refine Zc ?_ | refine Zh ?_ | refine Za ?_)
  refine ZkK (xin:=Zod _ _ _) (ext:=[]) (ext2:=[]) [_,_] νa (fun _=>47) (fun _=>(10,2)) (Zpu 1 0 0 x e e' r r' hf h) rfl rfl rfl rfl (List.mem_cons_self ..) ⟨⟨_,rfl,rfl⟩,trivial⟩ (fun _ _=>⟨_,List.mem_cons_of_mem _ (List.mem_cons_self ..)⟩) rfl rfl rfl rfl ?_
  repeat (first | refine Zc ?_ | refine Zx ?_ | refine ZQ ?_)
  exact Zbt (.inr rfl) (νc _ _) [_,_,_] [] rfl rfl trivial rfl rfl
 by_cases h11:tk=11
 ·subst h11
  rw [if_neg (show ¬ ((11:Int)=1∨(11:Int)=2) by decide)] at h
  rw [if_neg (show ¬ (11:Int)=9 by decide)] at h
  rw [if_neg (show ¬ (11:Int)=10 by decide)] at h
  rw [if_neg (show ¬ (11:Int)=3 by decide)] at h
  rw [if_neg (show ¬ (11:Int)=5 by decide)] at h
  rw [if_pos (show (11:Int)=11 by decide)] at h
  obtain ⟨k,hk,h⟩:=Option.bind_eq_some_iff.1 h
  repeat (first | (refine Zr rfl rfl ?_) | (refine Zg rfl rfl ?_) | (refine Zff (ZiH _ _ _ hk) rfl rfl ?_) | refine Zn rfl (by (conv=>lhs;whnf);try rfl) ?_ | refine ZB rfl rfl rfl ?_ | refine Zp rfl (by (conv=>lhs;whnf);try rfl) ?_ | refine ZT rfl rfl rfl rfl (by (conv=>lhs;whnf);try rfl) ?_ | refine ZjD rfl (by (conv=>lhs;whnf);try rfl) (by (conv=>lhs;whnf);try rfl) (by rfl) ?_ | refine Zbr rfl rfl ?_ | refine Zc ?_ | refine Zh ?_ | refine Za ?_)
  refine ZkK (xin:=Zod _ _ _) (ext:=[]) (ext2:=[]) [_,_] νa (fun _=>57) (fun _=>(11,5)) (Zpu 2 k 0 x e e' r r' hf h) rfl rfl rfl rfl (List.mem_cons_self ..) ⟨⟨_,rfl,rfl⟩,trivial⟩ (fun _ _=>⟨_,List.mem_cons_of_mem _ (List.mem_cons_self ..)⟩) rfl rfl rfl rfl ?_
  repeat (first | refine Zc ?_ | refine Zx ?_ | refine ZQ ?_)
  exact Zbt (.inr rfl) (νc _ _) [_,_,_] [] rfl rfl trivial rfl rfl
 by_cases h7:tk=7
 ·subst h7
  rw [if_neg (show ¬ ((7:Int)=1∨(7:Int)=2) by decide)] at h
  rw [if_neg (show ¬ (7:Int)=9 by decide)] at h
  rw [if_neg (show ¬ (7:Int)=10 by decide)] at h
  rw [if_neg (show ¬ (7:Int)=3 by decide)] at h
  rw [if_neg (show ¬ (7:Int)=5 by decide)] at h
  rw [if_neg (show ¬ (7:Int)=11 by decide)] at h
  rw [if_pos (show (7:Int)=7 by decide)] at h
  obtain ⟨a,ha,h⟩:=Option.map_eq_some_iff.1 h
  injection h with q1 q2
  subst q1 q2
  repeat (first | (refine Zr rfl rfl ?_) | (refine Zg rfl rfl ?_) | (refine Zw [_] νa (Zvb e a r hft ha) rfl rfl rfl rfl rfl rfl ?_) | refine Zn rfl (by (conv=>lhs;whnf);try rfl) ?_ | refine Zp rfl (by (conv=>lhs;whnf);try rfl) ?_ | refine ZT rfl rfl rfl rfl (by (conv=>lhs;whnf);try rfl) ?_ | refine Zc ?_ | refine Zh ?_ | refine Za ?_ | refine Zx ?_ | refine ZQ ?_)
  exact Zbt (.inr rfl) (νc _ _) [_] [] rfl rfl trivial rfl rfl
 by_cases h8:tk=8
 ·subst h8
  rw [if_neg (show ¬ ((8:Int)=1∨(8:Int)=2) by decide)] at h
  rw [if_neg (show ¬ (8:Int)=9 by decide)] at h
  rw [if_neg (show ¬ (8:Int)=10 by decide)] at h
  rw [if_neg (show ¬ (8:Int)=3 by decide)] at h
  rw [if_neg (show ¬ (8:Int)=5 by decide)] at h
  rw [if_neg (show ¬ (8:Int)=11 by decide)] at h
  rw [if_neg (show ¬ (8:Int)=7 by decide)] at h
  rw [if_pos (show (8:Int)=8 by decide)] at h
  obtain ⟨a,ha,h⟩:=Option.map_eq_some_iff.1 h
  injection h with q1 q2
  subst q1 q2
  repeat (first | (refine Zr rfl rfl ?_) | (refine Zg rfl rfl ?_) | (refine Zw [_] νa (Zs8 e a r hft ha) rfl rfl rfl rfl rfl rfl ?_) | refine Zn rfl (by (conv=>lhs;whnf);try rfl) ?_ | refine Zp rfl (by (conv=>lhs;whnf);try rfl) ?_ | refine ZT rfl rfl rfl rfl (by (conv=>lhs;whnf);try rfl) ?_ | refine Zc ?_ | refine Zh ?_ | refine Za ?_ | refine Zx ?_ | refine ZQ ?_)
  exact Zbt (.inr rfl) (νc _ _) [_] [] rfl rfl trivial rfl rfl
 by_cases h6:tk=6
 ·subst h6
  rw [if_neg (show ¬ ((6:Int)=1∨(6:Int)=2) by decide)] at h
  rw [if_neg (show ¬ (6:Int)=9 by decide)] at h
  rw [if_neg (show ¬ (6:Int)=10 by decide)] at h
  rw [if_neg (show ¬ (6:Int)=3 by decide)] at h
  rw [if_neg (show ¬ (6:Int)=5 by decide)] at h
  rw [if_neg (show ¬ (6:Int)=11 by decide)] at h
  rw [if_neg (show ¬ (6:Int)=7 by decide)] at h
  rw [if_neg (show ¬ (6:Int)=8 by decide)] at h
  rw [if_pos (show (6:Int)=6 by decide)] at h
  repeat (first | (refine Zr rfl rfl ?_) | (refine Zg rfl rfl ?_) | (refine Zw [_] νa (ZmH e e' r r' hf h) rfl rfl rfl rfl rfl rfl ?_) | refine Zn rfl (by (conv=>lhs;whnf);try rfl) ?_ | refine Zp rfl (by (conv=>lhs;whnf);try rfl) ?_ | refine ZT rfl rfl rfl rfl (by (conv=>lhs;whnf);try rfl) ?_ | refine Zc ?_ | refine Zh ?_ | refine Za ?_ | refine Zx ?_ | refine ZQ ?_)
  exact Zbt (.inr rfl) (νc _ _) [_] [] rfl rfl trivial rfl rfl
 by_cases h12:tk=12
 ·subst h12
  rw [if_neg (show ¬ ((12:Int)=1∨(12:Int)=2) by decide)] at h
  rw [if_neg (show ¬ (12:Int)=9 by decide)] at h
  rw [if_neg (show ¬ (12:Int)=10 by decide)] at h
  rw [if_neg (show ¬ (12:Int)=3 by decide)] at h
  rw [if_neg (show ¬ (12:Int)=5 by decide)] at h
  rw [if_neg (show ¬ (12:Int)=11 by decide)] at h
  rw [if_neg (show ¬ (12:Int)=7 by decide)] at h
  rw [if_neg (show ¬ (12:Int)=8 by decide)] at h
  rw [if_neg (show ¬ (12:Int)=6 by decide)] at h
  rw [if_pos (show (12:Int)=12 by decide)] at h
  obtain ⟨k,hk,h⟩:=Option.bind_eq_some_iff.1 h
  repeat (first | (refine Zr rfl rfl ?_) | (refine Zg rfl rfl ?_) | (refine Zff (ZiH _ _ _ hk) rfl rfl ?_) | (refine Zw [_] νa (Zox k x e e' r r' hf h) rfl rfl rfl rfl rfl rfl ?_) | refine Zn rfl (by (conv=>lhs;whnf);try rfl) ?_ | refine ZB rfl rfl rfl ?_ | refine Zp rfl (by (conv=>lhs;whnf);try rfl) ?_ | refine ZT rfl rfl rfl rfl (by (conv=>lhs;whnf);try rfl) ?_ | refine Zc ?_ | refine Zh ?_ | refine Za ?_ | refine Zx ?_ | refine ZQ ?_)
  exact Zbt (.inr rfl) (νc _ _) [_] [] rfl rfl trivial rfl rfl
 by_cases h4:tk=4
 ·subst h4
  rw [if_neg (show ¬ ((4:Int)=1∨(4:Int)=2) by decide)] at h
  rw [if_neg (show ¬ (4:Int)=9 by decide)] at h
  rw [if_neg (show ¬ (4:Int)=10 by decide)] at h
  rw [if_neg (show ¬ (4:Int)=3 by decide)] at h
  rw [if_neg (show ¬ (4:Int)=5 by decide)] at h
  rw [if_neg (show ¬ (4:Int)=11 by decide)] at h
  rw [if_neg (show ¬ (4:Int)=7 by decide)] at h
  rw [if_neg (show ¬ (4:Int)=8 by decide)] at h
  rw [if_neg (show ¬ (4:Int)=6 by decide)] at h
  rw [if_neg (show ¬ (4:Int)=12 by decide)] at h
  rw [if_pos (show (4:Int)=4 by decide)] at h
  repeat (first | (refine Zr rfl rfl ?_) | (refine Zg rfl rfl ?_) | (refine Zw [_] νa (Zlc _ x.size e e' r r' hf h) rfl rfl rfl rfl rfl rfl ?_) | refine Zn rfl (by (conv=>lhs;whnf);try rfl) ?_ | refine Zp rfl (by (conv=>lhs;whnf);try rfl) ?_ | refine ZT rfl rfl rfl rfl (by (conv=>lhs;whnf);try rfl) ?_ | refine Zfq Tryz.underlying9 rfl rfl ?_ | refine Zc ?_ | refine Zh ?_ | refine Za ?_ | refine Zx ?_ | refine ZQ ?_)
  exact Zbt (.inr rfl) (νc _ _) [_] [] rfl rfl trivial rfl rfl
 rw [if_neg (fun q:tk=1∨tk=2=>q.elim h1 h2)] at h
 rw [if_neg h9] at h
 rw [if_neg h10] at h
 rw [if_neg h3] at h
 rw [if_neg h5] at h
 rw [if_neg h11] at h
 rw [if_neg h7] at h
 rw [if_neg h8] at h
 rw [if_neg h6] at h
 rw [if_neg h12] at h
 rw [if_neg h4] at h
 injection h with h
 injection h with q1 q2
 subst q1 q2
 rw [decide_eq_false h1]
 repeat (first | (refine Zg rfl rfl ?_) | refine Zp rfl (by (conv=>lhs;whnf);try rfl) ?_ | refine ZT rfl rfl rfl rfl (by (conv=>lhs;whnf);try rfl) ?_ | refine Zc ?_ | refine Za ?_)
 rw [decide_eq_false h2]
 repeat (first | (refine Zg rfl rfl ?_) | refine Zp rfl (by (conv=>lhs;whnf);try rfl) ?_ | refine ZT rfl rfl rfl rfl (by (conv=>lhs;whnf);try rfl) ?_ | refine Zc ?_ | refine Zh ?_ | refine Za ?_)
 rw [decide_eq_false h9]
 repeat (first | (refine Zg rfl rfl ?_) | refine Zp rfl (by (conv=>lhs;whnf);try rfl) ?_ | refine ZT rfl rfl rfl rfl (by (conv=>lhs;whnf);try rfl) ?_ | refine Zc ?_ | refine Zh ?_ | refine Za ?_)
 rw [decide_eq_false h10]
 repeat (first | (refine Zg rfl rfl ?_) | refine Zp rfl (by (conv=>lhs;whnf);try rfl) ?_ | refine ZT rfl rfl rfl rfl (by (conv=>lhs;whnf);try rfl) ?_ | refine Zc ?_ | refine Zh ?_ | refine Za ?_)
 rw [decide_eq_false h3]
 repeat (first | (refine Zg rfl rfl ?_) | refine Zp rfl (by (conv=>lhs;whnf);try rfl) ?_ | refine ZT rfl rfl rfl rfl (by (conv=>lhs;whnf);try rfl) ?_ | refine Zc ?_ | refine Zh ?_ | refine Za ?_)
 rw [decide_eq_false h5]
 repeat (first | (refine Zg rfl rfl ?_) | refine Zp rfl (by (conv=>lhs;whnf);try rfl) ?_ | refine ZT rfl rfl rfl rfl (by (conv=>lhs;whnf);try rfl) ?_ | refine Zc ?_ | refine Zh ?_ | refine Za ?_)
 rw [decide_eq_false h11]
 repeat (first | (refine Zg rfl rfl ?_) | refine Zp rfl (by (conv=>lhs;whnf);try rfl) ?_ | refine ZT rfl rfl rfl rfl (by (conv=>lhs;whnf);try rfl) ?_ | refine Zc ?_ | refine Zh ?_ | refine Za ?_)
 rw [decide_eq_false h7]
 repeat (first | (refine Zg rfl rfl ?_) | refine Zp rfl (by (conv=>lhs;whnf);try rfl) ?_ | refine ZT rfl rfl rfl rfl (by (conv=>lhs;whnf);try rfl) ?_ | refine Zc ?_ | refine Zh ?_ | refine Za ?_)
 rw [decide_eq_false h8]
 repeat (first | (refine Zg rfl rfl ?_) | refine Zp rfl (by (conv=>lhs;whnf);try rfl) ?_ | refine ZT rfl rfl rfl rfl (by (conv=>lhs;whnf);try rfl) ?_ | refine Zc ?_ | refine Zh ?_ | refine Za ?_)
 rw [decide_eq_false h6]
 repeat (first | (refine Zg rfl rfl ?_) | refine Zp rfl (by (conv=>lhs;whnf);try rfl) ?_ | refine ZT rfl rfl rfl rfl (by (conv=>lhs;whnf);try rfl) ?_ | refine Zc ?_ | refine Zh ?_ | refine Za ?_)
 rw [decide_eq_false h12]
 repeat (first | (refine Zg rfl rfl ?_) | refine Zp rfl (by (conv=>lhs;whnf);try rfl) ?_ | refine ZT rfl rfl rfl rfl (by (conv=>lhs;whnf);try rfl) ?_ | refine Zc ?_ | refine Zh ?_ | refine Za ?_)
 rw [decide_eq_false h4]
 repeat (first | (refine Zg rfl rfl ?_) | refine ZA ?_ | refine Zx ?_ | refine ZQ ?_)
 exact Zbt (.inr rfl) νa [_] [] rfl rfl trivial rfl rfl
def νp (k:Nat):Gen:=(1,k)
theorem ZmD (ν:Nat→Gen) {e:El} {r:List El} (lits:List (Nat×Option (Gen×VObj))) {tm tm':List (Nat×PV)} {ob:List (Nat×Option (Gen×VObj))} {ng:Nat} (h1:Zfz (σf fun k=>(k,ν k)) tm tm') (hob:ob=lits++somes (stP ν e r)) (hl:(lits.all fun q=>!Zbi q.1)=true) :
  Shift (mkS tm ob ng) (mkS tm' (somes (stP νp e r)) 2):=
 Ze5 _ h1 (Zkk (ν:=νp) (ν':=ν) (fun _ _=>rfl) e r) (by rw [hob];exact Za8 hl) (ZaP _ _ _)
def ZiK (s:ByteArray):List Tok→El→List El→Option (El×List El)
 | [],e,r=>some (e,r)
 | t::l,e,r=>(Zn9 s t e r).bind fun q=>ZiK s l q.1 q.2
theorem ZiL {s:ByteArray}:∀ {l:List Tok} {e e':El} {r r':List El},fits e r→ZiK s l e r=some (e',r')→fits e' r'
 | [],e,e',r,r',hf,h=>by injection h with h;injection h with h1 h2;rw [← h1,← h2];exact hf
 | t::l,e,e',r,r',hf,h=>by
   obtain ⟨⟨e1,r1⟩,h1,h⟩:=Option.bind_eq_some_iff.1 h
   exact ZiL (ZjY hf h1) h
def Zpn (s:ByteArray):Option (List (List PV)×Int):=(ZeB s).bind fun q=>if q.2=0 then (if q.1.length≤4611686018427387904 then (ZiK s q.1 ⟨0,0,0,[],none⟩ []).bind fun p=>(Zfi p.2.length p.1 p.2).map fun z=>(z.1.list,0) else none) else some ([],q.2)
abbrev startf (k:Nat):Nat×Gen:=if k=0 then (21,(4,4)) else if k=1000 then (19,(4,2)) else if k=1001 then (18,(4,1)) else if k=1002 then (60,(6,0)) else (61,(7,0))
set_option maxRecDepth 100000 in
set_option maxHeartbeats 2000000 in
theorem Zrr (s:ByteArray) (res:List (List PV)×Int) (h:Zpn s=some res):Zo Tryz.prog 29 [.str s] (.tup [.sl res.1,.int .i64 res.2]):=by
 obtain ⟨⟨l,e0⟩,hq,h⟩:=Option.bind_eq_some_iff.1 h
 refine ZbC mix Tryz.func29 (by kernel_rfl) rfl (by kernel_rfl) ?_
 repeat (first | (refine Zff (Zlo _ _ hq) rfl rfl ?_) | refine Zn rfl (by (conv=>lhs;whnf);try rfl) ?_ | refine Zp rfl (by (conv=>lhs;whnf);try rfl) ?_ | refine ZT rfl rfl rfl rfl (by (conv=>lhs;whnf);try rfl) ?_ | refine ZeI rfl rfl rfl ?_ | refine Zc ?_ | refine Zh ?_ | refine Za ?_)
 dsimp only at h
 by_cases he:e0=0
 rotate_left
 ·rw [if_neg he] at h
  injection h with h
  subst h
  rw [decide_eq_false he]
  repeat (first | (refine Zr rfl rfl ?_) | refine Zn rfl (by (conv=>lhs;whnf);try rfl) ?_ | refine Zp rfl (by (conv=>lhs;whnf);try rfl) ?_ | refine Zc ?_ | refine Zh ?_ | refine Za ?_ | refine Zba ?_)
  exact Zej rfl rfl rfl
 rw [if_pos he] at h
 by_cases hl:l.length≤4611686018427387904
 rotate_left
 ·rw [if_neg hl] at h
  cases h
 rw [if_pos hl] at h
 obtain ⟨⟨e1,r1⟩,hp,h⟩:=Option.bind_eq_some_iff.1 h
 obtain ⟨⟨e2,r2⟩,hz,h⟩:=Option.map_eq_some_iff.1 h
 subst h
 rw [decide_eq_true he]
 have hf0:fits ⟨0,0,0,[],none⟩ []:=⟨Nat.zero_le _,fun x hx=>by
  rw [List.mem_singleton.1 hx]
  exact ⟨fun q hq=>(by cases hq),Nat.zero_le _⟩⟩
 have hf1:=ZiL hf0 hp
 repeat (first | (refine Zg rfl rfl ?_) | (refine Zio rfl rfl rfl rfl (Nat.le_of_ble_eq_true rfl) rfl ?_) | refine Zn rfl (by (conv=>lhs;whnf);try rfl) ?_ | refine Zp rfl (by (conv=>lhs;whnf);try rfl) ?_ | refine ZgR rfl rfl ?_ | refine ZjD rfl (by (conv=>lhs;whnf);try rfl) (by (conv=>lhs;whnf);try rfl) (by rfl) ?_ | refine Zbr rfl rfl ?_ | refine Zc ?_ | refine Zh ?_ | refine Za ?_ | refine Zai ?_ | refine ZA ?_)
 refine ZH (fun (a:Nat×El×List El) _=>mkS [(0,.str s),(6,.ptr 0 (1,0) 0),(22,.sl (l.map Tok.cs)),(23,.int .i64 ((l.map Tok.cs).length:Int)),(24,.int .i64 ((a.1:Nat):Int))] (somes (stP νp a.2.1 a.2.2)) 2) (fun a=>a.1≤l.length∧fits a.2.1 a.2.2∧ZiK s (l.drop a.1) a.2.1 a.2.2=some (e1,r1)) (fun a=>l.length - a.1) (0,⟨0,0,0,[],none⟩,[]) 2 ⟨Nat.zero_le _,hf0,hp⟩
  (Shift.trans (Zch 18 60 3 78 5 rfl rfl rfl) (Shift.trans (Zch 18 61 4 111 3 rfl rfl rfl) (Shift.trans (Zcn (t:=61) rfl) (Ze5 startf ⟨rfl,rfl,rfl,rfl,rfl,trivial⟩ rfl (Zk rfl (Zk rfl (Zk rfl (Zk rfl (Zk rfl (ZP _)))))) (by decide))))) (fun a ng hJ=>?_)
 obtain ⟨q,e3,r3⟩:=a
 obtain ⟨hqq,hf3,ht⟩:=hJ
 dsimp only at hqq hf3 ht ⊢
 repeat (first | refine ZT rfl rfl rfl rfl (by (conv=>lhs;whnf);try rfl) ?_ | refine Zc ?_ | refine Zh ?_ | refine Za ?_)
 by_cases hlt:q<l.length
 ·refine Zr (by (conv=>lhs;whnf);try rfl) (by simp;omega) ?_
  rw [List.drop_eq_getElem_cons hlt] at ht
  obtain ⟨⟨e4,r4⟩,h4,ht⟩:=Option.bind_eq_some_iff.1 ht
  have hcs:(l.map Tok.cs)[q]? = some (Tok.cs l[q]):=by rw [List.getElem?_map,List.getElem?_eq_getElem hlt];rfl
  repeat (first | (refine ZdI rfl rfl rfl hcs rfl ?_) | (refine Zw [_,_] νp (Zui s _ e3 e4 r3 r4 hf3 h4) rfl rfl rfl rfl rfl rfl ?_) | refine Zn rfl (by (conv=>lhs;whnf);try rfl) ?_ | refine ZB rfl rfl rfl ?_ | refine ZmQ rfl rfl (by omega) ?_ | refine ZcV rfl rfl ?_ | refine ZaH rfl rfl rfl (by (conv=>lhs;whnf);try rfl) (by (conv=>lhs;whnf);try rfl) (by rfl) (by rfl) (Nat.le_of_ble_eq_true rfl) (by (conv=>lhs;whnf);try rfl) ?_ | refine Zc ?_ | refine Zh ?_ | refine Za ?_ | refine Zai ?_ | refine ZA ?_ | refine Zx ?_)
  exact Zaf (q+1,e4,r4) 2 ⟨by dsimp only;omega,ZjY hf3 h4,ht⟩ (by dsimp only;omega) (ZmD (νn (1,0) 4 3) [_,_] ⟨rfl,rfl,rfl,rfl,rfl,trivial⟩ rfl rfl)
 ·refine Zg (by (conv=>lhs;whnf);try rfl) (by simp;omega) ?_
  obtain rfl:q=l.length:=by omega
  rw [List.drop_length] at ht
  injection ht with ht
  injection ht with q1 q2
  subst q1 q2
  repeat (first | refine Zh ?_ | refine Zai ?_ | refine Za1 ?_)
  refine ZH (fun (a:El×List El) _=>mkS [(6,.ptr 0 (1,0) 0)] (somes (stP νp a.1 a.2)) 2) (fun a=>fits a.1 a.2∧Zfi a.2.length a.1 a.2=some (e2,r2)) (fun a=>a.2.length) (e3,r3) 2 ⟨hf3,hz⟩ (ZmD νp [] ⟨rfl,trivial⟩ rfl rfl) (fun a ng hJ=>?_)
  obtain ⟨e5,r5⟩:=a
  obtain ⟨hf5,hft⟩:=hJ
  dsimp only at hf5 hft ⊢
  have hr5:=hf5.1
  repeat (first | (refine Za6 rfl rfl (ZbW _ _ _) ?_) | refine Zn rfl (by (conv=>lhs;whnf);try rfl) ?_ | refine ZB rfl rfl rfl ?_ | refine Zi rfl rfl ?_ | refine ZT rfl rfl rfl rfl (by (conv=>lhs;whnf);try rfl) ?_ | refine ZaA rfl rfl ?_ | refine Zc ?_ | refine Zh ?_ | refine Za ?_)
  rcases r5 with _ | ⟨e6,r6⟩
  ·injection hft with hft
   injection hft with q1 q2
   subst q1 q2
   repeat (first | (refine Zg rfl rfl ?_) | (refine Zac [] νp (Zdo e5 [] (Nat.zero_le _)) rfl rfl rfl rfl rfl rfl ?_) | refine Zn rfl (by (conv=>lhs;whnf);try rfl) ?_ | refine ZB rfl rfl rfl ?_ | refine Zi rfl rfl ?_ | refine Zp rfl (by (conv=>lhs;whnf);try rfl) ?_ | refine ZaA rfl rfl ?_ | refine Zc ?_ | refine Zh ?_ | refine Za ?_ | refine Zba ?_ | refine Za1 ?_)
   exact Zej rfl rfl rfl
  ·rw [show decide ((1:Int)<(((e6::r6).length+1:Nat):Int))=true from decide_eq_true (by simp;omega)]
   obtain ⟨e7,he7,hft⟩:=Option.bind_eq_some_iff.1 hft
   repeat (first | (refine Zr rfl rfl ?_) | (refine Zw [] νp (ZiG e5 e6 e7 r6 (by simp at hr5;omega) (Zag (ZaC hf5)) he7) rfl rfl rfl rfl rfl rfl ?_) | refine Zn rfl (by (conv=>lhs;whnf);try rfl) ?_ | refine Zc ?_ | refine Za ?_ | refine Zai ?_ | refine ZA ?_ | refine Zx ?_ | refine ZQ ?_)
   exact Zaf (e7,r6) 2 ⟨ZdA hf5 he7,hft⟩ (by dsimp only;simp) (ZmD (νn (1,0) 3 1) [] ⟨rfl,trivial⟩ rfl rfl)
def ZdW (s:ByteArray):Option (List Node×Int):=(Zpn s).bind fun q=>(Zbh q.1).map fun l=>(l,q.2)
theorem ZkH (s:ByteArray) (r:List Node×Int) (h:ZdW s=some r):Zo Tryz.prog 29 [.str s] (.tup [.sl (List.map Node.cs r.1),.int .i64 r.2]):=by
 obtain ⟨q,hq,h⟩:=Option.bind_eq_some_iff.1 h
 obtain ⟨l,hl,h⟩:=Option.map_eq_some_iff.1 h
 subst h
 have:=Zrr s q hq
 rw [ZdL hl] at this
 exact this
end Go.Proofs.YtmgfammllddkhaaGreatDoor
namespace Go.Proofs.YtmgfammllddkhaaGreatDoor
open VL Go.RowKit
theorem ZsJ (B b:Nat) (bs:List Value) (s:ByteArray) (w:World) (h:Lib.IsBuilderF 186 5 B b bs w) (hlen:bs.length+s.size≤140737488355328) (hBw:B≤w.heap.size) :
  Calls Tryz.prog 174 #[.pointer (some ⟨b,0,none⟩),.string s] w fun e w'=>e = .returned (.tuple #[.int .i64 s.size,.nilIface])∧(Lib.BuilderAtF 186 5 B b (.pointer (some ⟨b,0,none⟩)) (bs++Lib.strCells s) w'∧Below B w w'):=
 Any.Builder_WriteString_f (P:=Tryz.prog) (ρ:=Tryz.lays105_ren) { Tryz.lays105 with } Tryz.Builder_Extra_105 B b bs s w h hlen hBw
structure SlW where
 a:Option Addr
 n:Nat
 c:Nat
structure NodeW where
 kind:Int
 tag:Int
 text:ByteArray
 kids:SlW
 args:SlW
instance:Enc NodeW where
 k:=5
 R _ _ x cs:=cs = [.int .i64 x.kind,.int .i64 x.tag,.string x.text,.slice x.kids.a x.kids.n x.kids.c,.slice x.args.a x.args.n x.args.c]
 len h:=by rw [h];rfl
 one h:=by
  obtain rfl:=h
  intro u hu
  simp only [List.mem_cons,List.not_mem_nil,or_false] at hu
  rcases hu with rfl | rfl | rfl | rfl | rfl<;>rfl
 keep _ _ h:=h
 weak _ h:=h
def Zfg (acc:List UInt8):List NodeW→Option (Option (List UInt8))
 | []=>some (some acc)
 | x::xs=>if x.kind=1∨x.kind=3 then (if acc.length+x.text.size≤140737488355328 then Zfg (acc++x.text.data.toList) xs else none) else if x.kind=2 then Zfg acc xs else some none
def ZnB:Option (List UInt8)→Value
 | some l=>.tuple #[.string ⟨l.toArray⟩,.bool true]
 | none=>.tuple #[.string ⟨#[]⟩,.bool false]
set_option maxRecDepth 100000 in
set_option maxHeartbeats 4000000 in
theorem Zp1 (A:Option Addr) (n c:Nat) (xs:List NodeW) (r:Option (List UInt8)) (hr:Zfg [] xs=some r) (w:World) (hS:SlR w A n c xs) :
  Calls Tryz.prog 117 #[.slice A n c] w fun e w'=>e = .returned (ZnB r)∧Below w.heap.size w w':=by
 have HN:=Lib.hid hS.1
 have hle:=hS.le
 go_enter Tryz.func117,Tryz.ntmps117
 go_wp2
 go_loopw [9] (fun i wr=>∃ (q:Nat) (acc:List UInt8),q≤n∧i = .int .i64 q∧Below w.heap.size w wr∧Lib.IsBuilderF 186 5 w.heap.size w.heap.size (Lib.byteCells acc) wr∧Hid (Zfg acc (xs.drop q)=some r)) (fun i _=>n - (intOf i).toNat)
 case atStart=>
  exact ⟨0,[],Nat.zero_le _,rfl,(Below.refl _ w).alloc (Nat.le_refl _) _,Lib.IsBuilderF.of (Lib.fresh_isBuilder 186 5 w),hr⟩
 case round=>
  obtain ⟨q,acc,hq,rfl,hbw,hI,hF⟩:=hrel
  have HW:=Lib.hid hbw
  clear hbw
  by_cases hlt:q<n
  ·obtain ⟨b,off,x,cs,hA,hbl,hx,hd,hR,hc⟩:=(SlR.mono HW.out hS).elem hlt
   obtain rfl:=hA
   have d0:wr.cell? ⟨b,off+q * 5,none⟩=some (.int .i64 x.kind):=by subst hR;exact hc 0 _ rfl
   have d1:wr.cell? ⟨b,off+q * 5+1,none⟩=some (.int .i64 x.tag):=by subst hR;exact hc 1 _ rfl
   have d2:wr.cell? ⟨b,off+q * 5+2,none⟩=some (.string x.text):=by subst hR;exact hc 2 _ rfl
   have d3:wr.cell? ⟨b,off+q * 5+3,none⟩=some (.slice x.kids.a x.kids.n x.kids.c):=by subst hR;exact hc 3 _ rfl
   have d4:wr.cell? ⟨b,off+q * 5+4,none⟩=some (.slice x.args.a x.args.n x.args.c):=by subst hR;exact hc 4 _ rfl
   have HD:=Lib.hid hd
   have HX:=Lib.hid hx
   clear hx hd hR hc
   by_cases h13:x.kind=1∨x.kind=3
   ·have hfit:acc.length+x.text.size≤140737488355328∧Zfg (acc++x.text.data.toList) (xs.drop (q+1))=some r:=by
     have e:=hF.out
     rw [HD.out] at e
     simp only [Zfg,if_pos h13] at e
     split at e
     ·exact ⟨‹_›,e⟩
     ·cases e
    have HI2:∀ o,Lib.IsBuilderF 186 5 w.heap.size w.heap.size (Lib.byteCells acc) (wr.alloc o):=fun o=>hI.alloc o
    rcases h13 with h13 | h13
    ·go_wp2_with (go_at_call 174;refine (ZsJ w.heap.size w.heap.size _ x.text _ (HI2 _) (by rw [Lib.byteCells_length];exact hfit.1) (Nat.le_trans HW.out.size (by simp))).mono ?_)
     rintro e W1 ⟨rfl,h1,b1⟩
     go_wp2
     go_roundw
     case rel=>
      refine ⟨q+1,acc++x.text.data.toList,by omega,by go_num,?_,?_,Lib.hid hfit.2⟩
      ·exact (Below.al HW.out _).trans b1
      ·rw [Lib.byteCells_append,← Lib.strCells_eq];exact Or.inr h1
     case measure=>simp [intOf];omega
    ·go_wp2_with (go_at_call 174;refine (ZsJ w.heap.size w.heap.size _ x.text _ (HI2 _) (by rw [Lib.byteCells_length];exact hfit.1) (Nat.le_trans HW.out.size (by simp))).mono ?_)
     rintro e W1 ⟨rfl,h1,b1⟩
     go_wp2
     go_roundw
     case rel=>
      refine ⟨q+1,acc++x.text.data.toList,by omega,by go_num,?_,?_,Lib.hid hfit.2⟩
      ·exact (Below.al HW.out _).trans b1
      ·rw [Lib.byteCells_append,← Lib.strCells_eq];exact Or.inr h1
     case measure=>simp [intOf];omega
   ·by_cases h2:x.kind=2
    ·have hn2:Zfg acc (xs.drop (q+1))=some r:=by
      have e:=hF.out
      rw [HD.out] at e
      simp only [Zfg,if_neg h13,if_pos h2] at e
      exact e
     go_wp2
     go_roundw
     case rel=>exact ⟨q+1,acc,by omega,by go_num,Below.al HW.out _,hI.alloc _,Lib.hid hn2⟩
     case measure=>simp [intOf];omega
    ·have hn2:r=none:=by
      have e:=hF.out
      rw [HD.out] at e
      simp only [Zfg,if_neg h13,if_neg h2] at e
      exact (Option.some.inj e).symm
     subst hn2
     go_wp2
     exact bodyPost_ret (v:=ZnB none) (by simp [results,Tryz.results117,go_sem, *];rfl) rfl ⟨rfl,Below.al HW.out _⟩
  ·have hz:r=some acc:=by
    have e:=hF.out
    rw [List.drop_eq_nil_of_le (by rw [← HN.out];omega)] at e
    exact (Option.some.inj e).symm
   subst hz
   go_wp2_with (go_at_call 176;refine (Tryz.Builder_String_any_f w.heap.size w.heap.size acc _ hI HW.out.size).mono ?_)
   rintro e W1 ⟨rfl,_,b1⟩
   go_wp2
   exact bodyPost_ret (v:=ZnB (some acc)) (by simp [results,Tryz.results117,go_sem, *];rfl) rfl ⟨rfl,HW.out.trans b1⟩
def ZgW (acc:List UInt8):List Node→Option (Option (List UInt8))
 | []=>some (some acc)
 | x::xs=>if x.kind=1∨x.kind=3 then (if acc.length+x.text.size≤140737488355328 then ZgW (acc++x.text.data.toList) xs else none) else if x.kind=2 then ZgW acc xs else some none
theorem ZnC:∀ (xs:List NodeW) (l:List Node) (acc:List UInt8),xs.length=l.length→(∀ (i:Nat) (x:NodeW) (y:Node),xs[i]? = some x→l[i]? = some y→x.kind=y.kind∧x.text=y.text)→Zfg acc xs=ZgW acc l
 | [],[],acc,_,_=>rfl
 | x::xs,y::l,acc,hl,h=>by
   obtain ⟨h1,h2⟩:=h 0 x y rfl rfl
   have ih:=fun acc=>ZnC xs l acc (by simpa using hl) (fun i a b ha hb=>h (i+1) a b ha hb)
   simp only [Zfg,ZgW,h1,h2,ih]
def Zgx:Value→SlW
 | .slice A n c=>⟨A,n,c⟩
 | _=>⟨none,0,0⟩
theorem ZsK {x:Ctx} {els:List (List PV)} {v:Value} (h:Rep x (.sl els) v):v = .slice (Zgx v).a (Zgx v).n (Zgx v).c:=by
 cases h
 rfl
theorem ZlM {x:Ctx} (hflt:∀ b o,x.F b o→b<x.W.heap.size) {L:List Node} {v:Value} (h:Rep x (.sl (L.map Node.cs)) v):∃ A n c xs,v = .slice A n c∧SlR x.W A n c xs∧∀ acc,Zfg acc xs=ZgW acc L:=by
 generalize hels:(L.map Node.cs)=els at h
 cases h with
 | sl _ A n c k b off f hn hc hm hk hA hcell hh=>
   subst hels
   have hx:∀ (i:Nat) (y:NodeW),(L.mapIdx fun i nd=>(⟨nd.kind,nd.tag,nd.text,Zgx (f i 3),Zgx (f i 4)⟩:NodeW))[i]? = some y→∃ nd,L[i]? = some nd∧y=⟨nd.kind,nd.tag,nd.text,Zgx (f i 3),Zgx (f i 4)⟩:=fun i y hi=>by
    rw [List.getElem?_mapIdx] at hi
    cases hL:L[i]? with
    | none=>rw [hL] at hi;cases hi
    | some nd=>rw [hL] at hi;injection hi with hi;exact ⟨nd,rfl,hi.symm⟩
   refine ⟨A,n,c,L.mapIdx fun i nd=>(⟨nd.kind,nd.tag,nd.text,Zgx (f i 3),Zgx (f i 4)⟩:NodeW),rfl,⟨by simpa using hn,hc,hm,fun h0=>?_⟩,fun acc=>ZnC _ _ _ (by simp) fun i y nd hi hd=>?_⟩
   ·have hL:0<L.length:=by rw [hn,List.length_map] at h0;exact h0
    have hk5:k=5:=by
     obtain ⟨s,hs⟩:∃ s,L[0]? = some s:=⟨_,List.getElem?_eq_getElem hL⟩
     exact (hk (Node.cs s) (List.mem_map.2 ⟨s,List.mem_of_getElem? hs,rfl⟩)).symm
    subst hk5
    have el:∀ i nd,L[i]? = some nd→(L.map Node.cs)[i]? = some (Node.cs nd):=fun i nd hi=>by rw [List.getElem?_map,hi];rfl
    obtain ⟨s0,hs0⟩:∃ s,L[0]? = some s:=⟨_,List.getElem?_eq_getElem hL⟩
    refine ⟨b,off,fun i=>[f i 0,f i 1,f i 2,f i 3,f i 4],hA h0,trivial,hflt _ _ (hcell 0 0 _ _ (el 0 s0 hs0) rfl).2.1,fun i y hi=>?_⟩
    obtain ⟨nd,hd,rfl⟩:=hx i y hi
    have e:=el i nd hd
    refine ⟨?_,fun j u hj=>?_⟩
    ·have r0:=hh i 0 _ _ e rfl
     have r1:=hh i 1 _ _ e rfl
     have r2:=hh i 2 _ _ e rfl
     have r3:=ZsK (hh i 3 _ _ e rfl)
     have r4:=ZsK (hh i 4 _ _ e rfl)
     have q0:f i 0 = .int .i64 nd.kind:=by generalize f i 0=u at r0;cases r0;rfl
     have q1:f i 1 = .int .i64 nd.tag:=by generalize f i 1=u at r1;cases r1;rfl
     have q2:f i 2 = .string nd.text:=by generalize f i 2=u at r2;cases r2;rfl
     show [f i 0,f i 1,f i 2,f i 3,f i 4] = [.int .i64 nd.kind,.int .i64 nd.tag,.string nd.text,.slice (Zgx (f i 3)).a (Zgx (f i 3)).n (Zgx (f i 3)).c,.slice (Zgx (f i 4)).a (Zgx (f i 4)).n (Zgx (f i 4)).c]
     rw [q0,q1,q2,← r3,← r4]
    ·match j,hj with
     | 0,hj=>injection hj with hj;subst hj;exact (hcell i 0 _ _ e rfl).2.2
     | 1,hj=>injection hj with hj;subst hj;exact (hcell i 1 _ _ e rfl).2.2
     | 2,hj=>injection hj with hj;subst hj;exact (hcell i 2 _ _ e rfl).2.2
     | 3,hj=>injection hj with hj;subst hj;exact (hcell i 3 _ _ e rfl).2.2
     | 4,hj=>injection hj with hj;subst hj;exact (hcell i 4 _ _ e rfl).2.2
     | j+5,hj=>simp at hj
   ·obtain ⟨nd',h1,rfl⟩:=hx i y hi
    rw [hd] at h1
    injection h1 with h1
    subst h1
    exact ⟨rfl,rfl⟩
def ZeM (l:List Node):Option (ByteArray×Bool):=match ZgW [] l with
 | some (some t)=>some (⟨t.toArray⟩,true)
 | some none=>some (⟨#[]⟩,false)
 | none=>none
theorem Zvd {x:Ctx} (a:ByteArray) (c:Bool):Rep x (.tup [.str a,.bool c]) (.tuple #[.string a,.bool c]):=.tup _ _ rfl fun i p v hp hv=>by
 match i,hp,hv with
 | 0,hp,hv=>injection hp with hp;injection hv with hv;subst hp hv;exact .str _
 | 1,hp,hv=>injection hp with hp;injection hv with hv;subst hp hv;exact .bool _
 | i+2,hp,_=>simp at hp
theorem args1 {x:Ctx} {p:PV} {vs:Array Value} (h:Pre x [p] none vs):∃ v,vs = #[v]∧Rep x p v:=by
 obtain ⟨v,hv⟩:∃ v,vs = #[v]:=Array.size_eq_one_iff.1 h.size.symm
 exact ⟨v,hv,h.rep 0 _ _ rfl (by rw [hv];rfl)⟩
theorem ZlN (l:List Node) (r:ByteArray×Bool) (h:ZeM l=some r):Zo Tryz.prog 117 [.sl (List.map Node.cs l)] (.tup [.str r.1,.bool r.2]):=by
 obtain ⟨o,ho,hv⟩:∃ o,ZgW [] l=some o∧ZnB o = .tuple #[.string r.1,.bool r.2]:=by
  unfold ZeM at h
  split at h
  ·cases h;exact ⟨_,‹_›,rfl⟩
  ·cases h;exact ⟨_,‹_›,rfl⟩
  ·cases h
 exact Zew (by kernel_rfl) rfl (fun x=>Zvd _ _) fun x vs hp _=>by
  obtain ⟨v,rfl,h1⟩:=args1 hp
  obtain ⟨A,n,c,xs,rfl,hS,he⟩:=ZlM hp.flt h1
  rw [← hv]
  exact Zp1 A n c xs o ((he []).trans ho) x.W hS
end Go.Proofs.YtmgfammllddkhaaGreatDoor
set_option linter.unusedVariables false
set_option maxHeartbeats 4000000
set_option maxRecDepth 100000
namespace Go.Proofs.YtmgfammllddkhaaGreatDoor
open VL
def Zbs (p0:List Node):Option (Title×Bool):=
 (ZeM p0).bind fun r1=>
 (Zcl r1.1).bind fun r2=>
 letk (fun (x5:Bool)=>
  if x5 then
   (some ((⟨0,(⟨#[]⟩:ByteArray)⟩:Title),false):Option (Title×Bool))
  else
  (ZcT r2).bind fun r6=>
  if (!decide (r6.2=0)) then
   (some ((⟨0,(⟨#[]⟩:ByteArray)⟩:Title),false):Option (Title×Bool))
  else
  letk (fun (x8:Bool)=>
   letk (fun (x9:Int)=>
    (some ((⟨x9,r6.1.name⟩:Title),true):Option (Title×Bool))) fun k3=>
   if x8 then
    k3 3
   else
   k3 r6.1.space) fun k2=>
  if (decide (r6.1.space=0)) then
   (ZF r2 (⟨#[58]⟩:ByteArray)).bind fun r10=>
   k2 (!r10)
  else
  k2 false) fun k1=>
 if (!r1.2) then
  k1 true
 else
 (ZF r2 (⟨#[35]⟩:ByteArray)).bind fun r11=>
 if r11 then
  k1 true
 else
 (ZF r2 (⟨#[47]⟩:ByteArray)).bind fun r12=>
 k1 r12
theorem Zh7 (p0:List Node) (r:Title×Bool) (h:Zbs p0=some r):Zo Tryz.prog 67 [.sl (List.map Node.cs p0)] (.tup [r.1.pv,.bool r.2]):=by
 refine cF (fun r=>.tup [r.1.pv,.bool r.2]) h mix Tryz.func67 fun r h=>?_
 unfold Zbs at h
 refine Zq ?_
 refine rg ?_
 refine rg ?_
 refine aC h (ZlN _) fun r1 h=>?_
 refine rg ?_
 refine aC h (Zgd _) fun r2 h=>?_
 refine jL h (fun x5=>mkS [(2,.ptr 2 (1,2) 0),(6,.str r2),(25,.bool x5)] [(2,some ((1,2),.box [.int .i64 0,.str (⟨#[]⟩:ByteArray)]))] 2) (fun k1 h=>?_) fun x5 h=>?_
 ·refine rg ?_
  refine kS 18 h rfl (fun h=>?_) fun h=>?_
  ·iterate 4 refine ZN rfl (Zq ?_)
   exact jn true h (sR [(2,1,0)])
  refine aC h (Zao _ _) fun r11 h=>?_
  refine kS 22 h rfl (fun h=>?_) fun h=>?_
  ·iterate 2 refine ZN rfl (Zq ?_)
   exact jn true h (sR [(2,1,0)])
  refine aC h (Zao _ _) fun r12 h=>?_
  exact jn r12 h (sR [(2,1,0)])
 refine cS h rfl (fun h=>?_) fun h=>?_
 ·refine rg ?_
  cases h
  exact rQ
 refine rg ?_
 refine aC h (Zfx _) fun r6 h=>?_
 refine rg ?_
 refine cS h rfl (fun h=>?_) fun h=>?_
 ·refine rg ?_
  cases h
  exact rQ
 refine jL h (fun x8=>mkS [(2,.ptr 2 (1,2) 0),(7,.ptr 7 (1,7) 0),(42,.bool x8)] [(2,some ((1,2),.box [.int .i64 0,.str (⟨#[]⟩:ByteArray)])),(7,some ((1,7),.box (Title.cs r6.1)))] 2) (fun k2 h=>?_) fun x8 h=>?_
 ·refine rg ?_
  refine kS 38 h rfl (fun h=>?_) fun h=>?_
  ·refine aC h (Zao _ _) fun r10 h=>?_
   exact jn (!r10) h (sR [(2,1,2),(7,2,5)])
  iterate 3 refine ZN rfl (Zq ?_)
  exact jn false h (sR [(2,1,2),(7,2,5)])
 refine jL h (fun x9=>mkS [(2,.ptr 2 (1,2) 0),(7,.ptr 7 (1,7) 0)] [(2,some ((1,2),.box [.int .i64 0,.str (⟨#[]⟩:ByteArray)])),(7,some ((1,7),.box [.int .i64 x9,.str r6.1.name]))] 2) (fun k3 h=>?_) fun x9 h=>?_
 ·refine cS h rfl (fun h=>?_) fun h=>?_
  ·refine rg ?_
   exact jn 3 h (sR [(2,1,2),(7,1,7)])
  exact jn r6.1.space h (sR [(2,1,2),(7,1,7)])
 refine rg ?_
 cases h
 exact rQ
def ZaJ:Nat→Finder→(List Node)→Option Finder
 | 0,_,_=>none
 | mF+1,p0,p1=>
 Zbq Zel (fun f7 ((x13,x14,x15):Int×(List Link)×(List Memb))=>
  if (decide (x13<(p1.length:Int))) then
   letk (fun (x33:List Link) (x34:List Memb)=>
    f7 ((w64 (x13+1)),x33,x34)) fun k9=>
   (atI p1 x13).bind fun e35=>
   if (decide (e35.kind=1)) then
    (ZaI (⟨x14,x15⟩:Finder) e35.text).bind fun r36=>
    k9 r36.links r36.members
   else
   letk (fun (x37:Bool)=>
    if x37 then
     (Zbh e35.kids).bind fun l38=>
     (ZaJ mF (⟨x14,x15⟩:Finder) l38).bind fun r39=>
     k9 r39.links r39.members
    else
    k9 x14 x15) fun k10=>
   if (decide (e35.kind=6)) then
    k10 (!decide (e35.tag=2))
   else
   k10 false
  else
  (some (⟨x14,x15⟩:Finder):Option Finder)) (0,p0.links,p0.members)
theorem Zg7 (mF:Nat):∀ (p0:Finder) (p1:List Node) (r:Finder),ZaJ mF p0 p1=some r→ContractP Tryz.prog 30 [.ptr 0 (0,0) 0,.sl (List.map Node.cs p1)] 0 [.row 42 3 false (List.map Link.cs p0.links),.row 45 3 false (List.map Memb.cs p0.members)] (.tup []) [.row 42 3 false (List.map Link.cs r.links),.row 45 3 false (List.map Memb.cs r.members)]:=by
 induction mF with
 | zero=>intro p0 p1 r h;cases h
 | succ mF ihF=>
 intro p0 p1 r h
 refine Zgn (R:=fun r=>.tup []) (O:=fun r=>[.row 42 3 false (List.map Link.cs r.links),.row 45 3 false (List.map Memb.cs r.members)]) h mix Tryz.func30 (by kernel_rfl) rfl (by kernel_rfl) rfl fun r h=>?_
 simp only [ZaJ] at h
 refine Zq ?_
 refine rg ?_
 refine lM Node.cs p1 ?_
 refine bl ?_
 refine ZW h fun f7 mf7 hf7 h=>?_
 refine ZH (α:=Nat×(Int×(List Link)×(List Memb))) (fun a _=>mkS [(0,.ptr 0 (0,0) 0),(6,.sl (List.map Node.cs p1)),(7,.int .i64 (p1.length:Int)),(8,.int .i64 a.2.1)] [(0,some ((0,0),.box [.row 1000 (1,1000),.row 1001 (1,1001)])),(1000,some ((1,1000),.row 42 3 false (List.map Link.cs a.2.2.1))),(1001,some ((1,1001),.row 45 3 false (List.map Memb.cs a.2.2.2)))] 2) (fun a=>Zbq a.1 f7 a.2=some r) (fun a=>a.1) (mf7,0,p0.links,p0.members) 2 h (sR [(1000,0,1000),(1001,0,1001)]) (fun a _ h=>?_)
 obtain ⟨mf7,x13,x14,x15⟩:=a
 obtain ⟨mf7,rfl,h⟩:=ZX hf7 h
 dsimp only at h ⊢
 refine Zq ?_
 refine rg ?_
 refine cS h rfl (fun h=>?_) fun h=>?_
 ·refine Zcr h fun k9 hk9 h=>?_
  refine Zb3 (α:=(List Link)×(List Memb)) (fun a _=>mkS [(0,.ptr 0 (0,0) 0),(6,.sl (List.map Node.cs p1)),(7,.int .i64 (p1.length:Int)),(8,.int .i64 x13)] [(0,some ((0,0),.box [.row 1000 (1,1000),.row 1001 (1,1001)])),(1000,some ((1,1000),.row 42 3 false (List.map Link.cs a.1))),(1001,some ((1,1001),.row 45 3 false (List.map Memb.cs a.2)))] 2) (fun a=>k9 a.1 a.2=some r) (Zq ?_) (fun a _ h=>?_)
  ·refine bl ?_
   refine rg ?_
   refine aI Node.cs h fun e35 h=>?_
   refine bl ?_
   refine rg ?_
   refine cS h rfl (fun h=>?_) fun h=>?_
   ·refine rg ?_
    obtain ⟨r36,h22,h⟩:=bnd h
    refine Zgy (Zfn _ _ _ h22) rfl rfl rfl rfl rfl rfl rfl rfl (Zq ?_)
    exact jn (r36.links,r36.members) h (sR [(1000,5,1000003),(1001,5,2000003)])
   refine jL h (fun x37=>mkS [(0,.ptr 0 (0,0) 0),(5,.ptr 5 (1,5) 0),(6,.sl (List.map Node.cs p1)),(7,.int .i64 (p1.length:Int)),(8,.int .i64 x13),(20,.bool x37)] [(0,some ((0,0),.box [.row 1000 (1,1000),.row 1001 (1,1001)])),(5,some ((1,5),.box [.int .i64 e35.kind,.int .i64 e35.tag,.str e35.text,.sl e35.kids,.sl e35.args])),(1000,some ((1,1000),.row 42 3 false (List.map Link.cs x14))),(1001,some ((1,1001),.row 45 3 false (List.map Memb.cs x15)))] 2) (fun k10 h=>?_) fun x37 h=>?_
   ·refine rg ?_
    refine kS 24 h rfl (fun h=>?_) fun h=>?_
    ·exact jn (!decide (e35.tag=2)) h (sR [(5,3,2),(1000,1,1000),(1001,1,1001)])
    iterate 3 refine ZN rfl (Zq ?_)
    exact jn false h (sR [(5,3,2),(1000,1,1000),(1001,1,1001)])
   refine cS h rfl (fun h=>?_) fun h=>?_
   ·refine rg ?_
    obtain ⟨l38,h23,h⟩:=bnd h
    refine ZtZ 31 (ZdL h23) rfl (Zq ?_)
    obtain ⟨r39,h24,h⟩:=bnd h
    refine Zgy (ihF _ _ _ h24) rfl rfl rfl rfl rfl rfl rfl rfl (Zq ?_)
    exact jn (r39.links,r39.members) h (sR [(1000,2,1000003),(1001,2,2000003)])
   exact jn (x14,x15) h (sR [(1000,1,1000),(1001,1,1001)])
  obtain ⟨x33,x34⟩:=a
  subst hk9
  dsimp only at h ⊢
  refine Zq ?_
  refine rg ?_
  exact rn (mf7,(w64 (x13+1)),x33,x34) h (sR [(1000,1,1000),(1001,1,1001)])
 cases h
 exact Zlr rfl rfl rfl rfl rfl rfl
def Zt:Nat→Finder→(List Node)→Option Finder
 | 0,_,_=>none
 | mF+1,p0,p1=>
 Zbq Zel (fun f15 ((x93,x94,x95):Int×(List Link)×(List Memb))=>
  if (decide (x93<(p1.length:Int))) then
   letk (fun (x233:List Link) (x234:List Memb)=>
    f15 ((w64 (x93+1)),x233,x234)) fun k19=>
   (atI p1 x93).bind fun e235=>
   letk (fun (x236:Bool)=>
    if x236 then
     k19 x94 x95
    else
    letk (fun (x240:List Link)=>
     (Zbh e235.kids).bind fun l241=>
     (Zt mF (⟨x240,x95⟩:Finder) l241).bind fun r242=>
     (ZlV e235.args).bind fun l243=>
     Zbq Zel (fun f22 ((x254,x255,x256):Int×(List Link)×(List Memb))=>
      if (decide (x254<(l243.length:Int))) then
       (atI l243 x254).bind fun e272=>
       (Zbh e272.name).bind fun l273=>
       (Zt mF (⟨x255,x256⟩:Finder) l273).bind fun r274=>
       (Zbh e272.value).bind fun l275=>
       (Zt mF r274 l275).bind fun r276=>
       f22 ((w64 (x254+1)),r276.links,r276.members)
      else
      k19 x255 x256) (0,r242.links,r242.members)) fun k21=>
    if (decide (e235.kind=4)) then
     (Zbh e235.kids).bind fun l277=>
     (Zbs l277).bind fun r278=>
     if r278.2 then
      (Zjw 32 x94 [(⟨2,r278.1⟩:Link)]).bind fun l279=>
      k21 l279
     else
     k21 x94
    else
    k21 x94) fun k20=>
   if (decide (e235.kind=6)) then
    k20 (decide (e235.tag=2))
   else
   k20 false
  else
  (some (⟨x94,x95⟩:Finder):Option Finder)) (0,p0.links,p0.members)
theorem ZeR (mF:Nat):∀ (p0:Finder) (p1:List Node) (r:Finder),Zt mF p0 p1=some r→ContractP Tryz.prog 31 [.ptr 0 (0,0) 0,.sl (List.map Node.cs p1)] 0 [.row 42 3 false (List.map Link.cs p0.links),.row 45 3 false (List.map Memb.cs p0.members)] (.tup []) [.row 42 3 false (List.map Link.cs r.links),.row 45 3 false (List.map Memb.cs r.members)]:=by
 induction mF with
 | zero=>intro p0 p1 r h;cases h
 | succ mF ihF=>
 intro p0 p1 r h
 refine Zgn (R:=fun r=>.tup []) (O:=fun r=>[.row 42 3 false (List.map Link.cs r.links),.row 45 3 false (List.map Memb.cs r.members)]) h mix Tryz.func31 (by kernel_rfl) rfl (by kernel_rfl) rfl fun r h=>?_
 simp only [Zt] at h
 refine Zq ?_
 refine rg ?_
 refine lM Node.cs p1 ?_
 refine bl ?_
 refine ZW h fun f15 mf15 hf15 h=>?_
 refine ZH (α:=Nat×(Int×(List Link)×(List Memb))) (fun a _=>mkS [(0,.ptr 0 (0,0) 0),(10,.sl (List.map Node.cs p1)),(11,.int .i64 (p1.length:Int)),(12,.int .i64 a.2.1)] [(0,some ((0,0),.box [.row 1000 (1,1000),.row 1001 (1,1001)])),(1000,some ((1,1000),.row 42 3 false (List.map Link.cs a.2.2.1))),(1001,some ((1,1001),.row 45 3 false (List.map Memb.cs a.2.2.2)))] 2) (fun a=>Zbq a.1 f15 a.2=some r) (fun a=>a.1) (mf15,0,p0.links,p0.members) 2 h (sR [(1000,0,1000),(1001,0,1001)]) (fun a _ h=>?_)
 obtain ⟨mf15,x93,x94,x95⟩:=a
 obtain ⟨mf15,rfl,h⟩:=ZX hf15 h
 dsimp only at h ⊢
 refine Zq ?_
 refine rg ?_
 refine cS h rfl (fun h=>?_) fun h=>?_
 ·refine Zcr h fun k19 hk19 h=>?_
  refine Zb3 (α:=(List Link)×(List Memb)) (fun a _=>mkS [(0,.ptr 0 (0,0) 0),(10,.sl (List.map Node.cs p1)),(11,.int .i64 (p1.length:Int)),(12,.int .i64 x93)] [(0,some ((0,0),.box [.row 1000 (1,1000),.row 1001 (1,1001)])),(1000,some ((1,1000),.row 42 3 false (List.map Link.cs a.1))),(1001,some ((1,1001),.row 45 3 false (List.map Memb.cs a.2)))] 2) (fun a=>k19 a.1 a.2=some r) (Zq ?_) (fun a _ h=>?_)
  ·refine bl ?_
   refine rg ?_
   refine aI Node.cs h fun e235 h=>?_
   refine jL h (fun x236=>mkS [(0,.ptr 0 (0,0) 0),(5,.ptr 5 (1,5) 0),(10,.sl (List.map Node.cs p1)),(11,.int .i64 (p1.length:Int)),(12,.int .i64 x93),(23,.bool x236)] [(0,some ((0,0),.box [.row 1000 (1,1000),.row 1001 (1,1001)])),(5,some ((1,5),.box [.int .i64 e235.kind,.int .i64 e235.tag,.str e235.text,.sl e235.kids,.sl e235.args])),(1000,some ((1,1000),.row 42 3 false (List.map Link.cs x94))),(1001,some ((1,1001),.row 45 3 false (List.map Memb.cs x95)))] 2) (fun k20 h=>?_) fun x236 h=>?_
   ·refine rg ?_
    refine kS 19 h rfl (fun h=>?_) fun h=>?_
    ·exact jn (decide (e235.tag=2)) h (sR [(5,3,2),(1000,1,1000),(1001,1,1001)])
    iterate 3 refine ZN rfl (Zq ?_)
    exact jn false h (sR [(5,3,2),(1000,1,1000),(1001,1,1001)])
   refine cS h rfl (fun h=>?_) fun h=>?_
   ·exact jn (x94,x95) h (sR [(1000,1,1000),(1001,1,1001)])
   refine rg ?_
   refine jL h (fun x240=>mkS [(0,.ptr 0 (0,0) 0),(5,.ptr 5 (1,5) 0),(10,.sl (List.map Node.cs p1)),(11,.int .i64 (p1.length:Int)),(12,.int .i64 x93)] [(0,some ((0,0),.box [.row 1000 (1,1000),.row 1001 (1,1001)])),(5,some ((1,5),.box [.int .i64 e235.kind,.int .i64 e235.tag,.str e235.text,.sl e235.kids,.sl e235.args])),(1000,some ((1,1000),.row 42 3 false (List.map Link.cs x240))),(1001,some ((1,1001),.row 45 3 false (List.map Memb.cs x95)))] 2) (fun k21 h=>?_) fun x240 h=>?_
   ·refine cS h rfl (fun h=>?_) fun h=>?_
    ·refine rg ?_
     obtain ⟨l277,h238,h⟩:=bnd h
     refine ZtZ 29 (ZdL h238) rfl (Zq ?_)
     refine aC h (Zh7 _) fun r278 h=>?_
     refine rg ?_
     refine cS h rfl (fun h=>?_) fun h=>?_
     ·refine rg ?_
      refine Zc5 (M:=([(⟨2,r278.1⟩:Link)]:List Link)) (f:=Link.cs) rfl rfl rfl rfl (Nat.le_of_ble_eq_true rfl) rfl (Zq ?_)
      refine pR Link.cs h fun l279 h=>?_
      exact jn l279 h (sR [(5,1,5),(1000,5,8),(1001,1,1001)])
     exact jn x94 h (sR [(5,1,5),(1000,1,1000),(1001,1,1001)])
    exact jn x94 h (sR [(5,1,5),(1000,1,1000),(1001,1,1001)])
   refine rg ?_
   obtain ⟨l241,h205,h⟩:=bnd h
   refine ZtZ 47 (ZdL h205) rfl (Zq ?_)
   obtain ⟨r242,h206,h⟩:=bnd h
   refine Zgy (ihF _ _ _ h206) rfl rfl rfl rfl rfl rfl rfl rfl (Zq ?_)
   refine rg ?_
   obtain ⟨l243,h207,h⟩:=bnd h
   refine ZtZ 50 (Zqf h207) rfl (Zq ?_)
   refine lM Arg.cs l243 ?_
   refine bl ?_
   refine ZW h fun f22 mf22 hf22 h=>?_
   refine ZH (α:=Nat×(Int×(List Link)×(List Memb))) (fun a _=>mkS [(0,.ptr 0 (0,0) 0),(10,.sl (List.map Node.cs p1)),(11,.int .i64 (p1.length:Int)),(12,.int .i64 x93),(50,.sl (List.map Arg.cs l243)),(51,.int .i64 (l243.length:Int)),(52,.int .i64 a.2.1)] [(0,some ((0,0),.box [.row 1000 (1,1000),.row 1001 (1,1001)])),(1000,some ((1,1000),.row 42 3 false (List.map Link.cs a.2.2.1))),(1001,some ((1,1001),.row 45 3 false (List.map Memb.cs a.2.2.2)))] 2) (fun a=>Zbq a.1 f22 a.2=some r) (fun a=>a.1) (mf22,0,r242.links,r242.members) 2 h (sR [(1000,2,1000003),(1001,2,2000003)]) (fun a _ h=>?_)
   obtain ⟨mf22,x254,x255,x256⟩:=a
   obtain ⟨mf22,rfl,h⟩:=ZX hf22 h
   dsimp only at h ⊢
   refine Zq ?_
   refine rg ?_
   refine cS h rfl (fun h=>?_) fun h=>?_
   ·refine bl ?_
    refine rg ?_
    refine aI Arg.cs h fun e272 h=>?_
    refine rg ?_
    obtain ⟨l273,h234,h⟩:=bnd h
    refine ZtZ 58 (ZdL h234) rfl (Zq ?_)
    obtain ⟨r274,h235,h⟩:=bnd h
    refine Zgy (ihF _ _ _ h235) rfl rfl rfl rfl rfl rfl rfl rfl (Zq ?_)
    refine rg ?_
    obtain ⟨l275,h236,h⟩:=bnd h
    refine ZtZ 62 (ZdL h236) rfl (Zq ?_)
    obtain ⟨r276,h237,h⟩:=bnd h
    refine Zgy (ihF _ _ _ h237) rfl rfl rfl rfl rfl rfl rfl rfl (Zq ?_)
    refine rg ?_
    exact rn (mf22,(w64 (x254+1)),r276.links,r276.members) h (sR [(1000,5,1000003),(1001,5,2000003)])
   exact jn (x255,x256) h (sR [(1000,1,1000),(1001,1,1001)])
  obtain ⟨x233,x234⟩:=a
  subst hk19
  dsimp only at h ⊢
  refine Zq ?_
  refine rg ?_
  exact rn (mf15,(w64 (x93+1)),x233,x234) h (sR [(1000,1,1000),(1001,1,1001)])
 cases h
 exact Zlr rfl rfl rfl rfl rfl rfl
end Go.Proofs.YtmgfammllddkhaaGreatDoor

namespace Go.Proofs.YtmgfammllddkhaaGreatDoor
open VL Go.RowKit
def strings_Compare (a b:ByteArray):Option Int:=some (Lib.compareBytes a.data.toList b.data.toList)
theorem Zhr (a b:ByteArray) (r:Int) (h:strings_Compare a b=some r):Zo Tryz.prog 71 [.str a,.str b] (.int .i64 r):=by
 unfold strings_Compare at h
 cases h
 exact ZaF (vals:=[.string a,.string b]) (by kernel_rfl) rfl rfl (fun x=>.int _ _) fun w hw=>(Zkf a b w).mono fun e w' ⟨h1,h2⟩=>⟨h1,by rw [← h2];exact Below.refl _ _⟩
end Go.Proofs.YtmgfammllddkhaaGreatDoor
