/- The parser's take: what a token does. | The parser's take, -/
import Derived.Test.YtmgfammllddkhaaGreatDoorCO11
set_option linter.unusedSimpArgs false
set_option maxRecDepth 100000
set_option maxHeartbeats 4000000
set_option linter.unusedVariables false
namespace Go.Proofs.YtmgfammllddkhaaGreatDoor
section
open VL
def IQ (k t c:Int) (x:Q1) (e:El) (r:Q3 El):Q2 (El×Q3 El):=if 20<=r.length then (AK e x).map fun e'=>(e',r) else some (⟨k,t,c,[],none⟩,e::r)
def KO (e:El):Q2 El:=if e.kind=3 then match e.args with | none=>some ⟨e.kind,e.tag,e.count,e.list,some ([],⟨false,[],[]⟩)⟩ | some (pre,a)=>if pre.length+1<=1000000 then some ⟨e.kind,e.tag,e.count,e.list,some (pre ++ [a],⟨false,[],[]⟩)⟩ else none else AK e ⟨#[124]⟩
def M8 (s:Q1) (t:Tok) (e:El) (r:Q3 El):Q2 (El×Q3 El):=(HU s t).bind fun x=>if t.kind=1\/t.kind=2 then (AK e x).map fun e'=>(e',r) else if t.kind=9 then (EI e ⟨2,0,x,[],[]⟩).map fun e'=>(e',r) else if t.kind=10 then (AH x 8 (w64 ((x.size:Int)-9))).bind fun y=>(EI e ⟨3,0,y,[],[]⟩).map fun e'=>(e',r) else if t.kind=3 then IQ 3 0 x.size x e r else if t.kind=5 then IQ 1 0 0 x e r else if t.kind=11 then (KD s t).bind fun k=>IQ 2 k 0 x e r else if t.kind=7 then (KO e).map fun e'=>(e',r) else if t.kind=8 then (KK e).map fun e'=>(e',r) else if t.kind=6 then KM e r else if t.kind=12 then (KD s t).bind fun k=>KN k x e r else if t.kind=4 then FW (x.size+1) x.size e r else some (e,r)
theorem Zzz (e e':El) (r:Q3 El) (hf:fit e r) (h:KO e=some e'):PC 106 [] e r (.tup []) e' r:=by{
unfold KO at h
split at h
rename_i hk
obtain ⟨kind,tag,count,list,args⟩:=e
dsimp only at hk
subst hk
rcases args with _ | ⟨pre,a⟩
injection h with h
rw [<- h]
exact Zvi tag count list r hf.1.1
dsimp only at h
split at h
injection h with h
rw [<- h]
exact Zvk tag count list pre a r hf.1
cases h
rename_i hk
exact Zvh e e' r hf.1 hf.2 hk h}
theorem Zvt {e e':El} {r:Q3 El} (hf:fit e r) (h:KO e=some e'):fit e' r:=by{
unfold KO at h
split at h
rename_i hk
obtain ⟨kind,tag,count,list,args⟩:=e
dsimp only at hk
subst hk
rcases args with _ | ⟨pre,a⟩
injection h with h
rw [<- h]
exact ⟨⟨hf.1.1,fun q hq=>by injection hq with hq;rw [<- hq];exact YJ _⟩,by show 0<=_;omega⟩
dsimp only at h
split at h
rename_i hp
injection h with h
rw [<- h]
exact ⟨⟨hf.1.1,fun q hq=>by injection hq with hq;rw [<- hq];simpa using hp⟩,by show 0<=_;omega⟩
cases h
exact CF hf h}
theorem Zxs (e e':El) (r:Q3 El) (hf:fit e r) (h:KK e=some e'):PC 107 [] e r (.tup []) e' r:=by{
obtain ⟨kind,tag,count,list,args⟩:=e
unfold KK at h
rcases args with _ | ⟨pre,⟨named,name,value⟩⟩
exact nE _ e' r hf.1 hf.2 (.inr (.inl rfl)) h
dsimp only at h
split at h
rename_i hc
obtain ⟨h1,h2⟩:=hc
subst h1 h2
injection h with h
rw [<- h]
exact ZsH tag count list pre name value r hf.1
rename_i hc
refine nE _ e' r hf.1 hf.2 ?_ h
by_cases hk:kind=3
refine .inr (.inr ⟨pre,_,rfl,?_⟩)
cases named
exact absurd ⟨hk,rfl⟩ hc
rfl
exact .inl hk}
theorem Zrz {e e':El} {r:Q3 El} (hf:fit e r) (h:KK e=some e'):fit e' r:=by{
obtain ⟨kind,tag,count,list,args⟩:=e
unfold KK at h
rcases args with _ | ⟨pre,⟨named,name,value⟩⟩
exact CF hf h
dsimp only at h
split at h
rename_i hc
obtain ⟨h1,h2⟩:=hc
subst h1 h2
injection h with h
rw [<- h]
exact ⟨⟨hf.1.1,fun q hq=>by injection hq with hq;rw [<- hq];exact hf.1.2 (pre,⟨false,name,value⟩) rfl⟩,by show 0<=_;omega⟩
exact CF hf h}
theorem Zpv (e e':El) (r r':Q3 El) (hf:fits e r) (h:KM e r=some (e',r')):PC 108 [] e r (.tup []) e' r':=by{
unfold KM at h
split at h
rename_i hk
rcases r with _ | ⟨e2,r⟩
cases h
obtain ⟨a,h1,h⟩:=Ya.1 h
obtain ⟨b,h2,h⟩:=Ya.1 h
obtain ⟨c,h3,h⟩:=Ye.1 h
injection h with q1 q2
subst q1 q2
obtain ⟨kind,tag,count,list,args⟩:=e
dsimp only at hk
subst hk
exact Zm5 tag count list args e2 a b c r (DF hf).1 (BO (DF hf)) h1 h2 h3
rename_i hk
obtain ⟨c,h3,h⟩:=Ye.1 h
injection h with q1 q2
subst q1 q2
exact ZlS e c r (BO hf) hk h3}
theorem ZkW {e e':El} {r r':Q3 El} (hf:fits e r) (h:KM e r=some (e',r')):fits e' r':=by{
unfold KM at h
split at h
rcases r with _ | ⟨e2,r⟩
cases h
obtain ⟨a,h1,h⟩:=Ya.1 h
obtain ⟨b,h2,h⟩:=Ya.1 h
obtain ⟨c,h3,h⟩:=Ye.1 h
injection h with q1 q2
subst q1 q2
exact F9 (DF hf) (CF (NH (CF (BO (DF hf)) h1) h2) h3)
obtain ⟨c,h3,h⟩:=Ye.1 h
injection h with q1 q2
subst q1 q2
exact F9 hf (CF (BO hf) h3)}
theorem ZlT {k:Int} {s:Q1} {e e':El} {r r':Q3 El} (hf:fits e r) (h:KN k s e r=some (e',r')):fits e' r':=by{
unfold KN at h
split at h
obtain ⟨c,h3,h⟩:=Ye.1 h
injection h with q1 q2
subst q1 q2
exact F9 hf (CF (BO hf) h3)
obtain ⟨⟨e1,r1⟩,h1,h⟩:=Ya.1 h
have hf1:=X0 hf h1
rcases r1 with _ | ⟨e2,r2⟩
cases h
obtain ⟨c,h3,h⟩:=Ye.1 h
injection h with q1 q2
subst q1 q2
exact F9 (DF hf1) (QA (BO (DF hf1)) h3)}
theorem nT {c:Int} {e e':El} {r r':Q3 El} (hf:fits e r) (h:M7 c e r=some (e',r')):fits e' r':=by{
obtain ⟨s,hs,h⟩:=Ya.1 h
obtain ⟨a,h3,h⟩:=Ye.1 h
injection h with q1 q2
subst q1 q2
exact F9 hf (CF (BO hf) h3)}
theorem eF:∀ {f:Nat} {c:Int} {e e':El} {r r':Q3 El},fits e r->FW f c e r=some (e',r')->fits e' r'
 | 0,c,e,e',r,r',hf,h=>by cases h
 | f+1,c,e,e',r,r',hf,h=>by
   unfold FW at h
   split at h
   split at h
   exact nT hf h
   obtain ⟨⟨e1,r1⟩,h1,h⟩:=Ya.1 h
   have hf1:=X0 hf h1
   split at h
   split at h
   exact eF (F9 hf1 ⟨⟨by have:=hf1.1;omega,fun q hq=>by cases hq⟩,by show 1<=9223372036854775807;omega⟩) h
   rcases r1 with _ | ⟨e2,r2⟩
   cases h
   obtain ⟨e4,h4,h⟩:=Ya.1 h
   exact eF (F9 (DF hf1) (WZ (BO (DF hf1)) h4)) h
   cases h
   exact nT hf h
theorem eG {k t c:Int} {x:Q1} {e e':El} {r r':Q3 El} (hf:fits e r) (h:IQ k t c x e r=some (e',r')):fits e' r':=by{
unfold IQ at h
split at h
obtain ⟨a,h3,h⟩:=Ye.1 h
injection h with q1 q2
subst q1 q2
exact F9 hf (CF (BO hf) h3)
injection h with h
injection h with q1 q2
subst q1 q2
refine ⟨by simp;omega,fun x hx=>?_⟩
rcases Ys.1 hx with rfl | hx
exact ⟨fun q hq=>(by cases hq),(by show 0<=_;omega)⟩
exact hf.2 x hx}
theorem eH (k t c:Int) (x:Q1) (e e':El) (r r':Q3 El) (hf:fits e r) (h:IQ k t c x e r=some (e',r')) :
  ContractG Tryz.prog 104 [.ptr 0 (0,0) 0,.ptr 1 (0,1) 0,.str x] (objs (stP νa e r)++Q9 k t c) (.tup []) (stP νb e' r' ++ []):=by{
rw [YB]
unfold IQ at h
split at h
rename_i hr
obtain ⟨a,h3,h⟩:=Ye.1 h
injection h with q1 q2
subst q1 q2
exact Ztd e a r k t c x hr (BO hf).1 (BO hf).2 h3
rename_i hr
injection h with h
injection h with q1 q2
subst q1 q2
exact Zte e r k t c x (by omega)}
theorem nU {s:Q1} {t:Tok} {e e':El} {r r':Q3 El} (hf:fits e r) (h:M8 s t e r=some (e',r')):fits e' r':=by{
obtain ⟨x,hx,h⟩:=Ya.1 h
have one:∀ {o:Q2 El},(∀ a,o=some a->fit a r)->o.map (fun e'=>(e',r))=some (e',r')->fits e' r':=fun h1 h=>by
 obtain ⟨a,h3,h⟩:=Ye.1 h
 injection h with q1 q2
 subst q1 q2
 exact F9 hf (h1 a h3)
split at h
exact one (fun a ha=>CF (BO hf) ha) h
split at h
exact one (fun a ha=>QA (BO hf) ha) h
split at h
obtain ⟨y,hy,h⟩:=Ya.1 h
exact one (fun a ha=>QA (BO hf) ha) h
split at h
exact eG hf h
split at h
exact eG hf h
split at h
obtain ⟨y,hy,h⟩:=Ya.1 h
exact eG hf h
split at h
exact one (fun a ha=>Zvt (BO hf) ha) h
split at h
exact one (fun a ha=>Zrz (BO hf) ha) h
split at h
exact ZkW hf h
split at h
obtain ⟨y,hy,h⟩:=Ya.1 h
exact ZlT hf h
split at h
exact eF hf h
injection h with h
injection h with q1 q2
subst q1 q2
exact hf}
theorem ZyI (s:Q1) (t:Tok) (e e':El) (r r':Q3 El) (hf:fits e r) (h:M8 s t e r=some (e',r')):PC 63 [.str s,t.pv] e r (.tup []) e' r':=by{
have hft:=BO hf
obtain ⟨x,hx,h⟩:=Ya.1 h
obtain ⟨tk,tf,tt⟩:=t
refine ZG mix Tryz.func63 (by kernel_rfl) rfl (by kernel_rfl) ?_
rw [CV]
repeat (first | (refine DW (kQ _ _ _ hx) rfl rfl ?_) | refine Zr rfl (by (conv=>lhs;whnf);try rfl) ?_ | refine ZJ rfl rfl rfl ?_ | refine Zm rfl rfl ?_ | refine Zs rfl (by (conv=>lhs;whnf);try rfl) ?_ | refine A7 rfl rfl rfl rfl (by (conv=>lhs;whnf);try rfl) ?_ | refine J9 rfl (by (conv=>lhs;whnf);try rfl) (by (conv=>lhs;whnf);try rfl) (by rfl) ?_ | refine Zf ?_ | refine Zl ?_ | refine Zb ?_ | refine CB ?_)
by_cases h1:tk=1
·subst h1
 rw [if_pos (show (1:Int)=1\/(1:Int)=2 by decide)] at h
 obtain ⟨a,ha,h⟩:=Ye.1 h
 injection h with q1 q2
 subst q1 q2
 repeat (first | (refine Zv rfl rfl ?_) | (refine ZC [_] νa (CP e r x hft.1 hft.2 a ha) rfl rfl rfl rfl rfl rfl ?_) | refine Zr rfl (by (conv=>lhs;whnf);try rfl) ?_ | refine Zf ?_ | refine Zb ?_ | refine ZH ?_ | refine ZE ?_ | refine BR ?_)
 exact BX (.inr rfl) (νc _ _) [_] [] rfl rfl trivial rfl rfl
by_cases h2:tk=2
·subst h2
 rw [if_pos (show (2:Int)=1\/(2:Int)=2 by decide)] at h
 obtain ⟨a,ha,h⟩:=Ye.1 h
 injection h with q1 q2
 subst q1 q2
 repeat (first | (refine Zv rfl rfl ?_) | (refine Zk rfl rfl ?_) | (refine ZC [_] νa (CP e r x hft.1 hft.2 a ha) rfl rfl rfl rfl rfl rfl ?_) | refine Zr rfl (by (conv=>lhs;whnf);try rfl) ?_ | refine Zs rfl (by (conv=>lhs;whnf);try rfl) ?_ | refine A7 rfl rfl rfl rfl (by (conv=>lhs;whnf);try rfl) ?_ | refine Zf ?_ | refine Zb ?_ | refine ZE ?_ | refine BR ?_)
 exact BX (.inr rfl) (νc _ _) [_] [] rfl rfl trivial rfl rfl
by_cases h9:tk=9
·subst h9
 rw [if_neg (show ¬ ((9:Int)=1\/(9:Int)=2) by decide),if_pos (show (9:Int)=9 by decide)] at h
 obtain ⟨a,ha,h⟩:=Ye.1 h
 injection h with q1 q2
 subst q1 q2
 repeat (first | (refine Zv rfl rfl ?_) | (refine Zk rfl rfl ?_) | (refine ZC [_] νa (nS e a r 2 0 x hft.1 ha) rfl rfl rfl rfl rfl rfl ?_) | refine Zr rfl (by (conv=>lhs;whnf);try rfl) ?_ | refine Zs rfl (by (conv=>lhs;whnf);try rfl) ?_ | refine A7 rfl rfl rfl rfl (by (conv=>lhs;whnf);try rfl) ?_ | refine D4 rfl rfl ?_ | refine Zf ?_ | refine Zl ?_ | refine Zb ?_ | refine ZE ?_ | refine BR ?_)
 exact BX (.inr rfl) (νc _ _) [_] [] rfl rfl trivial rfl rfl
by_cases h10:tk=10
·subst h10
 rw [if_neg (show ¬ ((10:Int)=1\/(10:Int)=2) by decide),if_neg (show ¬ (10:Int)=9 by decide),if_pos (show (10:Int)=10 by decide)] at h
 obtain ⟨y,hy,h⟩:=Ya.1 h
 obtain ⟨a,ha,h⟩:=Ye.1 h
 injection h with q1 q2
 subst q1 q2
 repeat (first | (refine Zv rfl rfl ?_) | (refine Zk rfl rfl ?_) | (refine iR StrT.eq rfl hy rfl rfl rfl ?_) | (refine ZC [_] νa (nS e a r 3 0 y hft.1 ha) rfl rfl rfl rfl rfl rfl ?_) | refine Zr rfl (by (conv=>lhs;whnf);try rfl) ?_ | refine Zs rfl (by (conv=>lhs;whnf);try rfl) ?_ | refine A7 rfl rfl rfl rfl (by (conv=>lhs;whnf);try rfl) ?_ | refine IG Tryz.underlying9 rfl rfl ?_ | refine D4 rfl rfl ?_ | refine Zf ?_ | refine Zl ?_ | refine Zb ?_ | refine ZE ?_ | refine BR ?_)
 exact BX (.inr rfl) (νc _ _) [_] [] rfl rfl trivial rfl rfl
by_cases h3:tk=3
·subst h3
 rw [if_neg (show ¬ ((3:Int)=1\/(3:Int)=2) by decide),if_neg (show ¬ (3:Int)=9 by decide),if_neg (show ¬ (3:Int)=10 by decide),if_pos (show (3:Int)=3 by decide)] at h
 repeat (first | (refine Zv rfl rfl ?_) | (refine Zk rfl rfl ?_) | refine Zr rfl (by (conv=>lhs;whnf);try rfl) ?_ | refine Zs rfl (by (conv=>lhs;whnf);try rfl) ?_ | refine A7 rfl rfl rfl rfl (by (conv=>lhs;whnf);try rfl) ?_ | refine IG Tryz.underlying9 rfl rfl ?_ | refine J9 rfl (by (conv=>lhs;whnf);try rfl) (by (conv=>lhs;whnf);try rfl) (by rfl) ?_ | refine D4 rfl rfl ?_ | refine Zf ?_ | refine Zl ?_ | refine Zb ?_)
 refine WR (xin:=Q9 _ _ _) (ext:=[]) (ext2:=[]) [_,_] νa (fun _=>40) (fun _=>(9,4)) (eH 3 0 x.size x e e' r r' hf h) rfl rfl rfl rfl (Yi ..) ⟨⟨_,rfl,rfl⟩,trivial⟩ (fun _ _=>⟨_,Yg _ (Yi ..)⟩) rfl rfl rfl rfl ?_
 repeat (first | refine Zf ?_ | refine ZE ?_ | refine BR ?_)
 exact BX (.inr rfl) (νc _ _) [_,_,_] [] rfl rfl trivial rfl rfl
by_cases h5:tk=5
·subst h5
 rw [if_neg (show ¬ ((5:Int)=1\/(5:Int)=2) by decide),if_neg (show ¬ (5:Int)=9 by decide),if_neg (show ¬ (5:Int)=10 by decide),if_neg (show ¬ (5:Int)=3 by decide),if_pos (show (5:Int)=5 by decide)] at h
 repeat (first | (refine Zv rfl rfl ?_) | (refine Zk rfl rfl ?_) | refine Zr rfl (by (conv=>lhs;whnf);try rfl) ?_ | refine Zs rfl (by (conv=>lhs;whnf);try rfl) ?_ | refine A7 rfl rfl rfl rfl (by (conv=>lhs;whnf);try rfl) ?_ | refine J9 rfl (by (conv=>lhs;whnf);try rfl) (by (conv=>lhs;whnf);try rfl) (by rfl) ?_ | refine D4 rfl rfl ?_ | refine Zf ?_ | refine Zl ?_ | refine Zb ?_)
 refine WR (xin:=Q9 _ _ _) (ext:=[]) (ext2:=[]) [_,_] νa (fun _=>47) (fun _=>(10,2)) (eH 1 0 0 x e e' r r' hf h) rfl rfl rfl rfl (Yi ..) ⟨⟨_,rfl,rfl⟩,trivial⟩ (fun _ _=>⟨_,Yg _ (Yi ..)⟩) rfl rfl rfl rfl ?_
 repeat (first | refine Zf ?_ | refine ZE ?_ | refine BR ?_)
 exact BX (.inr rfl) (νc _ _) [_,_,_] [] rfl rfl trivial rfl rfl
by_cases h11:tk=11
·subst h11
 rw [if_neg (show ¬ ((11:Int)=1\/(11:Int)=2) by decide),if_neg (show ¬ (11:Int)=9 by decide),if_neg (show ¬ (11:Int)=10 by decide),if_neg (show ¬ (11:Int)=3 by decide),if_neg (show ¬ (11:Int)=5 by decide),if_pos (show (11:Int)=11 by decide)] at h
 obtain ⟨k,hk,h⟩:=Ya.1 h
 repeat (first | (refine Zv rfl rfl ?_) | (refine Zk rfl rfl ?_) | (refine DW (kR _ _ _ hk) rfl rfl ?_) | refine Zr rfl (by (conv=>lhs;whnf);try rfl) ?_ | refine ZJ rfl rfl rfl ?_ | refine Zs rfl (by (conv=>lhs;whnf);try rfl) ?_ | refine A7 rfl rfl rfl rfl (by (conv=>lhs;whnf);try rfl) ?_ | refine J9 rfl (by (conv=>lhs;whnf);try rfl) (by (conv=>lhs;whnf);try rfl) (by rfl) ?_ | refine D4 rfl rfl ?_ | refine Zf ?_ | refine Zl ?_ | refine Zb ?_)
 refine WR (xin:=Q9 _ _ _) (ext:=[]) (ext2:=[]) [_,_] νa (fun _=>57) (fun _=>(11,5)) (eH 2 k 0 x e e' r r' hf h) rfl rfl rfl rfl (Yi ..) ⟨⟨_,rfl,rfl⟩,trivial⟩ (fun _ _=>⟨_,Yg _ (Yi ..)⟩) rfl rfl rfl rfl ?_
 repeat (first | refine Zf ?_ | refine ZE ?_ | refine BR ?_)
 exact BX (.inr rfl) (νc _ _) [_,_,_] [] rfl rfl trivial rfl rfl
by_cases h7:tk=7
·subst h7
 rw [if_neg (show ¬ ((7:Int)=1\/(7:Int)=2) by decide),if_neg (show ¬ (7:Int)=9 by decide),if_neg (show ¬ (7:Int)=10 by decide),if_neg (show ¬ (7:Int)=3 by decide),if_neg (show ¬ (7:Int)=5 by decide),if_neg (show ¬ (7:Int)=11 by decide),if_pos (show (7:Int)=7 by decide)] at h
 obtain ⟨a,ha,h⟩:=Ye.1 h
 injection h with q1 q2
 subst q1 q2
 repeat (first | (refine Zv rfl rfl ?_) | (refine Zk rfl rfl ?_) | (refine ZC [_] νa (Zzz e a r hft ha) rfl rfl rfl rfl rfl rfl ?_) | refine Zr rfl (by (conv=>lhs;whnf);try rfl) ?_ | refine Zs rfl (by (conv=>lhs;whnf);try rfl) ?_ | refine A7 rfl rfl rfl rfl (by (conv=>lhs;whnf);try rfl) ?_ | refine Zf ?_ | refine Zl ?_ | refine Zb ?_ | refine ZE ?_ | refine BR ?_)
 exact BX (.inr rfl) (νc _ _) [_] [] rfl rfl trivial rfl rfl
by_cases h8:tk=8
·subst h8
 rw [if_neg (show ¬ ((8:Int)=1\/(8:Int)=2) by decide),if_neg (show ¬ (8:Int)=9 by decide),if_neg (show ¬ (8:Int)=10 by decide),if_neg (show ¬ (8:Int)=3 by decide),if_neg (show ¬ (8:Int)=5 by decide),if_neg (show ¬ (8:Int)=11 by decide),if_neg (show ¬ (8:Int)=7 by decide),if_pos (show (8:Int)=8 by decide)] at h
 obtain ⟨a,ha,h⟩:=Ye.1 h
 injection h with q1 q2
 subst q1 q2
 repeat (first | (refine Zv rfl rfl ?_) | (refine Zk rfl rfl ?_) | (refine ZC [_] νa (Zxs e a r hft ha) rfl rfl rfl rfl rfl rfl ?_) | refine Zr rfl (by (conv=>lhs;whnf);try rfl) ?_ | refine Zs rfl (by (conv=>lhs;whnf);try rfl) ?_ | refine A7 rfl rfl rfl rfl (by (conv=>lhs;whnf);try rfl) ?_ | refine Zf ?_ | refine Zl ?_ | refine Zb ?_ | refine ZE ?_ | refine BR ?_)
 exact BX (.inr rfl) (νc _ _) [_] [] rfl rfl trivial rfl rfl
by_cases h6:tk=6
·subst h6
 rw [if_neg (show ¬ ((6:Int)=1\/(6:Int)=2) by decide),if_neg (show ¬ (6:Int)=9 by decide),if_neg (show ¬ (6:Int)=10 by decide),if_neg (show ¬ (6:Int)=3 by decide),if_neg (show ¬ (6:Int)=5 by decide),if_neg (show ¬ (6:Int)=11 by decide),if_neg (show ¬ (6:Int)=7 by decide),if_neg (show ¬ (6:Int)=8 by decide),if_pos (show (6:Int)=6 by decide)] at h
 repeat (first | (refine Zv rfl rfl ?_) | (refine Zk rfl rfl ?_) | (refine ZC [_] νa (Zpv e e' r r' hf h) rfl rfl rfl rfl rfl rfl ?_) | refine Zr rfl (by (conv=>lhs;whnf);try rfl) ?_ | refine Zs rfl (by (conv=>lhs;whnf);try rfl) ?_ | refine A7 rfl rfl rfl rfl (by (conv=>lhs;whnf);try rfl) ?_ | refine Zf ?_ | refine Zl ?_ | refine Zb ?_ | refine ZE ?_ | refine BR ?_)
 exact BX (.inr rfl) (νc _ _) [_] [] rfl rfl trivial rfl rfl
by_cases h12:tk=12
·subst h12
 rw [if_neg (show ¬ ((12:Int)=1\/(12:Int)=2) by decide),if_neg (show ¬ (12:Int)=9 by decide),if_neg (show ¬ (12:Int)=10 by decide),if_neg (show ¬ (12:Int)=3 by decide),if_neg (show ¬ (12:Int)=5 by decide),if_neg (show ¬ (12:Int)=11 by decide),if_neg (show ¬ (12:Int)=7 by decide),if_neg (show ¬ (12:Int)=8 by decide),if_neg (show ¬ (12:Int)=6 by decide),if_pos (show (12:Int)=12 by decide)] at h
 obtain ⟨k,hk,h⟩:=Ya.1 h
 repeat (first | (refine Zv rfl rfl ?_) | (refine Zk rfl rfl ?_) | (refine DW (kR _ _ _ hk) rfl rfl ?_) | (refine ZC [_] νa (Zr4 k x e e' r r' hf h) rfl rfl rfl rfl rfl rfl ?_) | refine Zr rfl (by (conv=>lhs;whnf);try rfl) ?_ | refine ZJ rfl rfl rfl ?_ | refine Zs rfl (by (conv=>lhs;whnf);try rfl) ?_ | refine A7 rfl rfl rfl rfl (by (conv=>lhs;whnf);try rfl) ?_ | refine Zf ?_ | refine Zl ?_ | refine Zb ?_ | refine ZE ?_ | refine BR ?_)
 exact BX (.inr rfl) (νc _ _) [_] [] rfl rfl trivial rfl rfl
by_cases h4:tk=4
·subst h4
 rw [if_neg (show ¬ ((4:Int)=1\/(4:Int)=2) by decide),if_neg (show ¬ (4:Int)=9 by decide),if_neg (show ¬ (4:Int)=10 by decide),if_neg (show ¬ (4:Int)=3 by decide),if_neg (show ¬ (4:Int)=5 by decide),if_neg (show ¬ (4:Int)=11 by decide),if_neg (show ¬ (4:Int)=7 by decide),if_neg (show ¬ (4:Int)=8 by decide),if_neg (show ¬ (4:Int)=6 by decide),if_neg (show ¬ (4:Int)=12 by decide),if_pos (show (4:Int)=4 by decide)] at h
 repeat (first | (refine Zv rfl rfl ?_) | (refine Zk rfl rfl ?_) | (refine ZC [_] νa (ZnM _ x.size e e' r r' hf h) rfl rfl rfl rfl rfl rfl ?_) | refine Zr rfl (by (conv=>lhs;whnf);try rfl) ?_ | refine Zs rfl (by (conv=>lhs;whnf);try rfl) ?_ | refine A7 rfl rfl rfl rfl (by (conv=>lhs;whnf);try rfl) ?_ | refine IG Tryz.underlying9 rfl rfl ?_ | refine Zf ?_ | refine Zl ?_ | refine Zb ?_ | refine ZE ?_ | refine BR ?_)
 exact BX (.inr rfl) (νc _ _) [_] [] rfl rfl trivial rfl rfl
rw [if_neg (fun q:tk=1\/tk=2=>q.elim h1 h2),if_neg h9,if_neg h10,if_neg h3,if_neg h5,if_neg h11,if_neg h7,if_neg h8,if_neg h6,if_neg h12,if_neg h4] at h
injection h with h
injection h with q1 q2
subst q1 q2
rw [Yf h1]
repeat (first | (refine Zk rfl rfl ?_) | refine Zs rfl (by (conv=>lhs;whnf);try rfl) ?_ | refine A7 rfl rfl rfl rfl (by (conv=>lhs;whnf);try rfl) ?_ | refine Zf ?_ | refine Zb ?_)
rw [Yf h2]
repeat (first | (refine Zk rfl rfl ?_) | refine Zs rfl (by (conv=>lhs;whnf);try rfl) ?_ | refine A7 rfl rfl rfl rfl (by (conv=>lhs;whnf);try rfl) ?_ | refine Zf ?_ | refine Zl ?_ | refine Zb ?_)
rw [Yf h9]
repeat (first | (refine Zk rfl rfl ?_) | refine Zs rfl (by (conv=>lhs;whnf);try rfl) ?_ | refine A7 rfl rfl rfl rfl (by (conv=>lhs;whnf);try rfl) ?_ | refine Zf ?_ | refine Zl ?_ | refine Zb ?_)
rw [Yf h10]
repeat (first | (refine Zk rfl rfl ?_) | refine Zs rfl (by (conv=>lhs;whnf);try rfl) ?_ | refine A7 rfl rfl rfl rfl (by (conv=>lhs;whnf);try rfl) ?_ | refine Zf ?_ | refine Zl ?_ | refine Zb ?_)
rw [Yf h3]
repeat (first | (refine Zk rfl rfl ?_) | refine Zs rfl (by (conv=>lhs;whnf);try rfl) ?_ | refine A7 rfl rfl rfl rfl (by (conv=>lhs;whnf);try rfl) ?_ | refine Zf ?_ | refine Zl ?_ | refine Zb ?_)
rw [Yf h5]
repeat (first | (refine Zk rfl rfl ?_) | refine Zs rfl (by (conv=>lhs;whnf);try rfl) ?_ | refine A7 rfl rfl rfl rfl (by (conv=>lhs;whnf);try rfl) ?_ | refine Zf ?_ | refine Zl ?_ | refine Zb ?_)
rw [Yf h11]
repeat (first | (refine Zk rfl rfl ?_) | refine Zs rfl (by (conv=>lhs;whnf);try rfl) ?_ | refine A7 rfl rfl rfl rfl (by (conv=>lhs;whnf);try rfl) ?_ | refine Zf ?_ | refine Zl ?_ | refine Zb ?_)
rw [Yf h7]
repeat (first | (refine Zk rfl rfl ?_) | refine Zs rfl (by (conv=>lhs;whnf);try rfl) ?_ | refine A7 rfl rfl rfl rfl (by (conv=>lhs;whnf);try rfl) ?_ | refine Zf ?_ | refine Zl ?_ | refine Zb ?_)
rw [Yf h8]
repeat (first | (refine Zk rfl rfl ?_) | refine Zs rfl (by (conv=>lhs;whnf);try rfl) ?_ | refine A7 rfl rfl rfl rfl (by (conv=>lhs;whnf);try rfl) ?_ | refine Zf ?_ | refine Zl ?_ | refine Zb ?_)
rw [Yf h6]
repeat (first | (refine Zk rfl rfl ?_) | refine Zs rfl (by (conv=>lhs;whnf);try rfl) ?_ | refine A7 rfl rfl rfl rfl (by (conv=>lhs;whnf);try rfl) ?_ | refine Zf ?_ | refine Zl ?_ | refine Zb ?_)
rw [Yf h12]
repeat (first | (refine Zk rfl rfl ?_) | refine Zs rfl (by (conv=>lhs;whnf);try rfl) ?_ | refine A7 rfl rfl rfl rfl (by (conv=>lhs;whnf);try rfl) ?_ | refine Zf ?_ | refine Zl ?_ | refine Zb ?_)
rw [Yf h4]
repeat (first | (refine Zk rfl rfl ?_) | refine ZH ?_ | refine ZE ?_ | refine BR ?_)
exact BX (.inr rfl) νa [_] [] rfl rfl trivial rfl rfl}
def νp (k:Nat):Gen:=(1,k)
theorem eI (ν:Nat->Gen) {e:El} {r:Q3 El} (lits:Q3 (Nat×Q2 (Gen×VObj))) {tm tm':Q3 (Nat×PV)} {ob:Q3 (Nat×Q2 (Gen×VObj))} {ng:Nat} (h1:EA (σf fun k=>(k,ν k)) tm tm') (hob:ob=lits++somes (stP ν e r)) (hl:(lits.all fun q=>!BK q.1)=true) :
  Shift (mkS tm ob ng) (mkS tm' (somes (stP νp e r)) 2):=
 KF _ h1 (P7 (ν:=νp) (ν':=ν) (fun _ _=>rfl) e r) (by rw [hob];exact DN hl) (DX _ _ _)
def KP (s:Q1):Q3 Tok->El->Q3 El->Q2 (El×Q3 El) | [],e,r=>some (e,r) | t::l,e,r=>(M8 s t e r).bind fun q=>KP s l q.1 q.2
theorem nV {s:Q1}:∀ {l:Q3 Tok} {e e':El} {r r':Q3 El},fits e r->KP s l e r=some (e',r')->fits e' r'
 | [],e,e',r,r',hf,h=>by injection h with h;injection h with h1 h2;rw [<- h1,<- h2];exact hf
 | t::l,e,e',r,r',hf,h=>by
   obtain ⟨⟨e1,r1⟩,h1,h⟩:=Ya.1 h
   exact nV (nU hf h1) h
def X3 (s:Q1):Q2 (Q3 (Q3 PV)×Int):=(T5 s).bind fun q=>if q.2=0 then (if q.1.length<=4611686018427387904 then (KP s q.1 ⟨0,0,0,[],none⟩ []).bind fun p=>(FA p.2.length p.1 p.2).map fun z=>(z.1.list,0) else none) else some ([],q.2)
abbrev startf (k:Nat):Nat×Gen:=if k=0 then (21,(4,4)) else if k=1000 then (19,(4,2)) else if k=1001 then (18,(4,1)) else if k=1002 then (60,(6,0)) else (61,(7,0))
theorem Zvp (s:Q1) (res:Q3 (Q3 PV)×Int) (h:X3 s=some res):Zg Tryz.prog 29 [.str s] (.tup [.sl res.1,.int .i64 res.2]):=by{
obtain ⟨⟨l,e0⟩,hq,h⟩:=Ya.1 h
refine LD mix Tryz.func29 (by kernel_rfl) rfl (by kernel_rfl) ?_
repeat (first | (refine DW (Zn2 _ _ hq) rfl rfl ?_) | refine Zr rfl (by (conv=>lhs;whnf);try rfl) ?_ | refine Zs rfl (by (conv=>lhs;whnf);try rfl) ?_ | refine A7 rfl rfl rfl rfl (by (conv=>lhs;whnf);try rfl) ?_ | refine OT rfl rfl rfl ?_ | refine Zf ?_ | refine Zl ?_ | refine Zb ?_)
dsimp only at h
by_cases he:e0=0
rotate_left
·rw [if_neg he] at h
 injection h with h
 subst h
 rw [Yf he]
 repeat (first | (refine Zv rfl rfl ?_) | refine Zr rfl (by (conv=>lhs;whnf);try rfl) ?_ | refine Zs rfl (by (conv=>lhs;whnf);try rfl) ?_ | refine Zf ?_ | refine Zl ?_ | refine Zb ?_ | refine CI ?_)
 exact FK rfl rfl rfl
rw [if_pos he] at h
by_cases hl:l.length<=4611686018427387904
rotate_left
rw [if_neg hl] at h
cases h
rw [if_pos hl] at h
obtain ⟨⟨e1,r1⟩,hp,h⟩:=Ya.1 h
obtain ⟨⟨e2,r2⟩,hz,h⟩:=Ye.1 h
subst h
rw [Yh he]
have hf0:fits ⟨0,0,0,[],none⟩ []:=⟨YJ _,fun x hx=>by
 rw [YG.1 hx]
 exact ⟨fun q hq=>(by cases hq),YJ _⟩⟩
have hf1:=nV hf0 hp
repeat (first | (refine Zk rfl rfl ?_) | (refine VO rfl rfl rfl rfl (Yk rfl) rfl ?_) | refine Zr rfl (by (conv=>lhs;whnf);try rfl) ?_ | refine Zs rfl (by (conv=>lhs;whnf);try rfl) ?_ | refine G5 rfl rfl ?_ | refine J9 rfl (by (conv=>lhs;whnf);try rfl) (by (conv=>lhs;whnf);try rfl) (by rfl) ?_ | refine D4 rfl rfl ?_ | refine Zf ?_ | refine Zl ?_ | refine Zb ?_ | refine CB ?_ | refine ZH ?_)
refine Zu (fun (a:Nat×El×Q3 El) _=>mkS [(0,.str s),(6,.ptr 0 (1,0) 0),(22,.sl (l.map Tok.cs)),(23,.int .i64 ((l.map Tok.cs).length:Int)),(24,.int .i64 ((a.1:Nat):Int))] (somes (stP νp a.2.1 a.2.2)) 2) (fun a=>a.1<=l.length/\fits a.2.1 a.2.2/\KP s (l.drop a.1) a.2.1 a.2.2=some (e1,r1)) (fun a=>l.length-a.1) (0,⟨0,0,0,[],none⟩,[]) 2 ⟨YJ _,hf0,hp⟩
 (Shift.trans (HH 18 60 3 78 5 rfl rfl rfl) (Shift.trans (HH 18 61 4 111 3 rfl rfl rfl) (Shift.trans (LI (t:=61) rfl) (KF startf ⟨rfl,rfl,rfl,rfl,rfl,trivial⟩ rfl (Zp rfl (Zp rfl (Zp rfl (Zp rfl (Zp rfl (AO _)))))) (by decide))))) (fun a ng hJ=>?_)
obtain ⟨q,e3,r3⟩:=a
obtain ⟨hqq,hf3,ht⟩:=hJ
dsimp only at hqq hf3 ht ⊢
repeat (first | refine A7 rfl rfl rfl rfl (by (conv=>lhs;whnf);try rfl) ?_ | refine Zf ?_ | refine Zl ?_ | refine Zb ?_)
by_cases hlt:q<l.length
·refine Zv (by (conv=>lhs;whnf);try rfl) (by simp;omega) ?_
 rw [Yt hlt] at ht
 obtain ⟨⟨e4,r4⟩,h4,ht⟩:=Ya.1 ht
 have hcs:(l.map Tok.cs)[q]? = some (Tok.cs l[q]):=by rw [Yw,Yc hlt];rfl
 repeat (first | (refine OS rfl rfl rfl hcs rfl ?_) | (refine ZC [_,_] νp (ZyI s _ e3 e4 r3 r4 hf3 h4) rfl rfl rfl rfl rfl rfl ?_) | refine Zr rfl (by (conv=>lhs;whnf);try rfl) ?_ | refine ZJ rfl rfl rfl ?_ | refine MX rfl rfl (by omega) ?_ | refine GR rfl rfl ?_ | refine BS rfl rfl rfl (by (conv=>lhs;whnf);try rfl) (by (conv=>lhs;whnf);try rfl) (by rfl) (by rfl) (Yk rfl) (by (conv=>lhs;whnf);try rfl) ?_ | refine Zf ?_ | refine Zl ?_ | refine Zb ?_ | refine CB ?_ | refine ZH ?_ | refine ZE ?_)
 exact C6 (q+1,e4,r4) 2 ⟨by dsimp only;omega,nU hf3 h4,ht⟩ (by dsimp only;omega) (eI (νn (1,0) 4 3) [_,_] ⟨rfl,rfl,rfl,rfl,rfl,trivial⟩ rfl rfl)
·refine Zk (by (conv=>lhs;whnf);try rfl) (by simp;omega) ?_
 obtain rfl:q=l.length:=by omega
 rw [GL] at ht
 injection ht with ht
 injection ht with q1 q2
 subst q1 q2
 repeat (first | refine Zl ?_ | refine CB ?_ | refine DD ?_)
 refine Zu (fun (a:El×Q3 El) _=>mkS [(6,.ptr 0 (1,0) 0)] (somes (stP νp a.1 a.2)) 2) (fun a=>fits a.1 a.2/\FA a.2.length a.1 a.2=some (e2,r2)) (fun a=>a.2.length) (e3,r3) 2 ⟨hf3,hz⟩ (eI νp [] ⟨rfl,trivial⟩ rfl rfl) (fun a ng hJ=>?_)
 obtain ⟨e5,r5⟩:=a
 obtain ⟨hf5,hft⟩:=hJ
 dsimp only at hf5 hft ⊢
 have hr5:=hf5.1
 repeat (first | (refine CO rfl rfl (EF _ _ _) ?_) | refine Zr rfl (by (conv=>lhs;whnf);try rfl) ?_ | refine ZJ rfl rfl rfl ?_ | refine Zm rfl rfl ?_ | refine A7 rfl rfl rfl rfl (by (conv=>lhs;whnf);try rfl) ?_ | refine AA rfl rfl ?_ | refine Zf ?_ | refine Zl ?_ | refine Zb ?_)
 rcases r5 with _ | ⟨e6,r6⟩
 ·injection hft with hft
  injection hft with q1 q2
  subst q1 q2
  repeat (first | (refine Zk rfl rfl ?_) | (refine C9 [] νp (CE e5 [] (YJ _)) rfl rfl rfl rfl rfl rfl ?_) | refine Zr rfl (by (conv=>lhs;whnf);try rfl) ?_ | refine ZJ rfl rfl rfl ?_ | refine Zm rfl rfl ?_ | refine Zs rfl (by (conv=>lhs;whnf);try rfl) ?_ | refine AA rfl rfl ?_ | refine Zf ?_ | refine Zl ?_ | refine Zb ?_ | refine CI ?_ | refine DD ?_)
  exact FK rfl rfl rfl
 ·rw [show decide ((1:Int)<(((e6::r6).length+1:Nat):Int))=true from Yh (by simp;omega)]
  obtain ⟨e7,he7,hft⟩:=Ya.1 hft
  repeat (first | (refine Zv rfl rfl ?_) | (refine ZC [] νp (eB e5 e6 e7 r6 (by simp at hr5;omega) (BO (DF hf5)) he7) rfl rfl rfl rfl rfl rfl ?_) | refine Zr rfl (by (conv=>lhs;whnf);try rfl) ?_ | refine Zf ?_ | refine Zb ?_ | refine CB ?_ | refine ZH ?_ | refine ZE ?_ | refine BR ?_)
  exact C6 (e7,r6) 2 ⟨WY hf5 he7,hft⟩ (by dsimp only;simp) (eI (νn (1,0) 3 1) [] ⟨rfl,trivial⟩ rfl rfl)}
def QE (s:Q1):Q2 (Q3 Node×Int):=(X3 s).bind fun q=>(AU q.1).map fun l=>(l,q.2)
theorem Zna (s:Q1) (r:Q3 Node×Int) (h:QE s=some r):Zg Tryz.prog 29 [.str s] (.tup [.sl (List.map Node.cs r.1),.int .i64 r.2]):=by{
obtain ⟨q,hq,h⟩:=Ya.1 h
obtain ⟨l,hl,h⟩:=Ye.1 h
subst h
have:=Zvp s q hq
rw [GB hl] at this
exact this}
end
section
open VL Go.RowKit
theorem nW (B b:Nat) (bs:Q3 Value) (s:Q1) (w:World) (h:Lib.IsBuilderF 186 5 B b bs w) (hlen:bs.length+s.size<=140737488355328) (hBw:B<=w.heap.size) :
  Calls Tryz.prog 174 #[.pointer (some ⟨b,0,none⟩),.string s] w fun e w'=>e = .returned (.tuple #[.int .i64 s.size,.nilIface])/\(Lib.BuilderAtF 186 5 B b (.pointer (some ⟨b,0,none⟩)) (bs++Lib.strCells s) w'/\Below B w w'):=
 Any.Builder_WriteString_f (P:=Tryz.prog) (ρ:=Tryz.lays105_ren) { Tryz.lays105 with } Tryz.Builder_Extra_105 B b bs s w h hlen hBw
structure SlW where
 a:Option Addr
 n:Nat
 c:Nat
structure NodeW where
 kind:Int
 tag:Int
 text:ByteArray
 kids:SlW
 args:SlW
instance:Enc NodeW where
 k:=5
 R _ _ x cs:=cs = [.int .i64 x.kind,.int .i64 x.tag,.string x.text,.slice x.kids.a x.kids.n x.kids.c,.slice x.args.a x.args.n x.args.c]
 len h:=by rw [h];rfl
 one h:=by
  obtain rfl:=h
  intro u hu
  simp only [Ys,L3,or_false] at hu
  rcases hu with rfl | rfl | rfl | rfl | rfl<;>rfl
 keep _ _ h:=h
 weak _ h:=h
def I2 (acc:Q3 Q4):Q3 NodeW->Q2 (Q2 (Q3 Q4)) | []=>some (some acc) | x::xs=>if x.kind=1\/x.kind=3 then (if acc.length+x.text.size<=140737488355328 then I2 (acc++x.text.data.toList) xs else none) else if x.kind=2 then I2 acc xs else some none
def X4:Q2 (Q3 Q4)->Value | some l=>.tuple #[.string ⟨l.toArray⟩,.bool true] | none=>.tuple #[.string ⟨#[]⟩,.bool false]
theorem ZtS (A:Q2 Addr) (n c:Nat) (xs:Q3 NodeW) (r:Q2 (Q3 Q4)) (hr:I2 [] xs=some r) (w:World) (hS:SlR w A n c xs) :
  Calls Tryz.prog 117 #[.slice A n c] w fun e w'=>e = .returned (X4 r)/\Below w.heap.size w w':=by{
have HN:=Lib.hid hS.1
have hle:=hS.le
go_enter Tryz.func117,Tryz.ntmps117
go_wp2
go_loopw [9] (fun i wr=>∃ (q:Nat) (acc:Q3 Q4),q<=n/\i = .int .i64 q/\Below w.heap.size w wr/\Lib.IsBuilderF 186 5 w.heap.size w.heap.size (Lib.byteCells acc) wr/\Hid (I2 acc (xs.drop q)=some r)) (fun i _=>n-(intOf i).toNat)
case atStart=>
 exact ⟨0,[],YJ _,rfl,(Below.refl _ w).alloc (Yn _) _,Lib.IsBuilderF.of (Lib.fresh_isBuilder 186 5 w),hr⟩
case round=>
 obtain ⟨q,acc,hq,rfl,hbw,hI,hF⟩:=hrel
 have HW:=Lib.hid hbw
 clear hbw
 by_cases hlt:q<n
 obtain ⟨b,off,x,cs,hA,hbl,hx,hd,hR,hc⟩:=(SlR.mono HW.out hS).elem hlt
 obtain rfl:=hA
 have d0:wr.cell? ⟨b,off+q * 5,none⟩=some (.int .i64 x.kind):=by subst hR;exact hc 0 _ rfl
 have d1:wr.cell? ⟨b,off+q * 5+1,none⟩=some (.int .i64 x.tag):=by subst hR;exact hc 1 _ rfl
 have d2:wr.cell? ⟨b,off+q * 5+2,none⟩=some (.string x.text):=by subst hR;exact hc 2 _ rfl
 have d3:wr.cell? ⟨b,off+q * 5+3,none⟩=some (.slice x.kids.a x.kids.n x.kids.c):=by subst hR;exact hc 3 _ rfl
 have d4:wr.cell? ⟨b,off+q * 5+4,none⟩=some (.slice x.args.a x.args.n x.args.c):=by subst hR;exact hc 4 _ rfl
 have HD:=Lib.hid hd
 have HX:=Lib.hid hx
 clear hx hd hR hc
 by_cases h13:x.kind=1\/x.kind=3
 have hfit:acc.length+x.text.size<=140737488355328/\I2 (acc++x.text.data.toList) (xs.drop (q+1))=some r:=by
  have e:=hF.out
  rw [HD.out] at e
  simp only [I2,if_pos h13] at e
  split at e
  exact ⟨‹_›,e⟩
  cases e
 have HI2:∀ o,Lib.IsBuilderF 186 5 w.heap.size w.heap.size (Lib.byteCells acc) (wr.alloc o):=fun o=>hI.alloc o
 rcases h13 with h13 | h13
 ·go_wp2_with (go_at_call 174;refine (nW w.heap.size w.heap.size _ x.text _ (HI2 _) (by rw [Lib.byteCells_length];exact hfit.1) (YX HW.out.size (by simp))).mono ?_)
  rintro e W1 ⟨rfl,h1,b1⟩
  go_wp2
  go_roundw
  case rel=>
   refine ⟨q+1,acc++x.text.data.toList,by omega,by go_num,?_,?_,Lib.hid hfit.2⟩
   exact (Below.al HW.out _).trans b1
   rw [Lib.byteCells_append,<- Lib.strCells_eq];exact Or.inr h1
  case measure=>simp [intOf];omega
 ·go_wp2_with (go_at_call 174;refine (nW w.heap.size w.heap.size _ x.text _ (HI2 _) (by rw [Lib.byteCells_length];exact hfit.1) (YX HW.out.size (by simp))).mono ?_)
  rintro e W1 ⟨rfl,h1,b1⟩
  go_wp2
  go_roundw
  case rel=>
   refine ⟨q+1,acc++x.text.data.toList,by omega,by go_num,?_,?_,Lib.hid hfit.2⟩
   exact (Below.al HW.out _).trans b1
   rw [Lib.byteCells_append,<- Lib.strCells_eq];exact Or.inr h1
  case measure=>simp [intOf];omega
 by_cases h2:x.kind=2
 ·have hn2:I2 acc (xs.drop (q+1))=some r:=by
   have e:=hF.out
   rw [HD.out] at e
   simp only [I2,if_neg h13,if_pos h2] at e
   exact e
  go_wp2
  go_roundw
  case rel=>exact ⟨q+1,acc,by omega,by go_num,Below.al HW.out _,hI.alloc _,Lib.hid hn2⟩
  case measure=>simp [intOf];omega
 ·have hn2:r=none:=by
   have e:=hF.out
   rw [HD.out] at e
   simp only [I2,if_neg h13,if_neg h2] at e
   exact (DB e).symm
  subst hn2
  go_wp2
  exact bodyPost_ret (v:=X4 none) (by simp [results,Tryz.results117,go_sem, *];rfl) rfl ⟨rfl,Below.al HW.out _⟩
 ·have hz:r=some acc:=by
   have e:=hF.out
   rw [YI (by rw [<- HN.out];omega)] at e
   exact (DB e).symm
  subst hz
  go_wp2_with (go_at_call 176;refine (Tryz.Builder_String_any_f w.heap.size w.heap.size acc _ hI HW.out.size).mono ?_)
  rintro e W1 ⟨rfl,_,b1⟩
  go_wp2
  exact bodyPost_ret (v:=X4 (some acc)) (by simp [results,Tryz.results117,go_sem, *];rfl) rfl ⟨rfl,HW.out.trans b1⟩}
def GZ (acc:Q3 Q4):Q3 Node->Q2 (Q2 (Q3 Q4)) | []=>some (some acc) | x::xs=>if x.kind=1\/x.kind=3 then (if acc.length+x.text.size<=140737488355328 then GZ (acc++x.text.data.toList) xs else none) else if x.kind=2 then GZ acc xs else some none
theorem nX:∀ (xs:Q3 NodeW) (l:Q3 Node) (acc:Q3 Q4),xs.length=l.length->(∀ (i:Nat) (x:NodeW) (y:Node),xs[i]? = some x->l[i]? = some y->x.kind=y.kind/\x.text=y.text)->I2 acc xs=GZ acc l
 | [],[],acc,_,_=>rfl
 | x::xs,y::l,acc,hl,h=>by
   obtain ⟨h1,h2⟩:=h 0 x y rfl rfl
   have ih:=fun acc=>nX xs l acc (by simpa using hl) (fun i a b ha hb=>h (i+1) a b ha hb)
   simp only [I2,GZ,h1,h2,ih]
def FX:Value->SlW | .slice A n c=>⟨A,n,c⟩ | _=>⟨none,0,0⟩
theorem nY {x:Ctx} {els:Q3 (Q3 PV)} {v:Value} (h:Rep x (.sl els) v):v = .slice (FX v).a (FX v).n (FX v).c:=by
 cases h
 rfl
theorem ZoB {x:Ctx} (hflt:∀ b o,x.F b o->b<x.W.heap.size) {L:Q3 Node} {v:Value} (h:Rep x (.sl (L.map Node.cs)) v):∃ A n c xs,v = .slice A n c/\SlR x.W A n c xs/\∀ acc,I2 acc xs=GZ acc L:=by{
generalize hels:(L.map Node.cs)=els at h
cases h with
| sl _ A n c k b off f hn hc hm hk hA hcell hh=>
  subst hels
  have hx:∀ (i:Nat) (y:NodeW),(L.mapIdx fun i nd=>(⟨nd.kind,nd.tag,nd.text,FX (f i 3),FX (f i 4)⟩:NodeW))[i]? = some y->∃ nd,L[i]? = some nd/\y=⟨nd.kind,nd.tag,nd.text,FX (f i 3),FX (f i 4)⟩:=fun i y hi=>by
   rw [List.getElem?_mapIdx] at hi
   cases hL:L[i]? with
   | none=>rw [hL] at hi;cases hi
   | some nd=>rw [hL] at hi;injection hi with hi;exact ⟨nd,rfl,hi.symm⟩
  refine ⟨A,n,c,L.mapIdx fun i nd=>(⟨nd.kind,nd.tag,nd.text,FX (f i 3),FX (f i 4)⟩:NodeW),rfl,⟨by simpa using hn,hc,hm,fun h0=>?_⟩,fun acc=>nX _ _ _ (by simp) fun i y nd hi hd=>?_⟩
  have hL:0<L.length:=by rw [hn,Yv] at h0;exact h0
  have hk5:k=5:=by
   obtain ⟨s,hs⟩:∃ s,L[0]? = some s:=⟨_,Yc hL⟩
   exact (hk (Node.cs s) (Yy.2 ⟨s,Yj hs,rfl⟩)).symm
  subst hk5
  have el:∀ i nd,L[i]? = some nd->(L.map Node.cs)[i]? = some (Node.cs nd):=fun i nd hi=>by rw [Yw,hi];rfl
  obtain ⟨s0,hs0⟩:∃ s,L[0]? = some s:=⟨_,Yc hL⟩
  refine ⟨b,off,fun i=>[f i 0,f i 1,f i 2,f i 3,f i 4],hA h0,trivial,hflt _ _ (hcell 0 0 _ _ (el 0 s0 hs0) rfl).2.1,fun i y hi=>?_⟩
  obtain ⟨nd,hd,rfl⟩:=hx i y hi
  have e:=el i nd hd
  refine ⟨?_,fun j u hj=>?_⟩
  have r0:=hh i 0 _ _ e rfl
  have r1:=hh i 1 _ _ e rfl
  have r2:=hh i 2 _ _ e rfl
  have r3:=nY (hh i 3 _ _ e rfl)
  have r4:=nY (hh i 4 _ _ e rfl)
  have q0:f i 0 = .int .i64 nd.kind:=by generalize f i 0=u at r0;cases r0;rfl
  have q1:f i 1 = .int .i64 nd.tag:=by generalize f i 1=u at r1;cases r1;rfl
  have q2:f i 2 = .string nd.text:=by generalize f i 2=u at r2;cases r2;rfl
  show [f i 0,f i 1,f i 2,f i 3,f i 4] = [.int .i64 nd.kind,.int .i64 nd.tag,.string nd.text,.slice (FX (f i 3)).a (FX (f i 3)).n (FX (f i 3)).c,.slice (FX (f i 4)).a (FX (f i 4)).n (FX (f i 4)).c]
  rw [q0,q1,q2,<- r3,<- r4]
  match j,hj with
  | 0,hj=>injection hj with hj;subst hj;exact (hcell i 0 _ _ e rfl).2.2
  | 1,hj=>injection hj with hj;subst hj;exact (hcell i 1 _ _ e rfl).2.2
  | 2,hj=>injection hj with hj;subst hj;exact (hcell i 2 _ _ e rfl).2.2
  | 3,hj=>injection hj with hj;subst hj;exact (hcell i 3 _ _ e rfl).2.2
  | 4,hj=>injection hj with hj;subst hj;exact (hcell i 4 _ _ e rfl).2.2
  | j+5,hj=>simp at hj
  obtain ⟨nd',h1,rfl⟩:=hx i y hi
  rw [hd] at h1
  injection h1 with h1
  subst h1
  exact ⟨rfl,rfl⟩}
def NJ (l:Q3 Node):Q2 (Q1×Bool):=match GZ [] l with | some (some t)=>some (⟨t.toArray⟩,true) | some none=>some (⟨#[]⟩,false) | none=>none
theorem ZzI {x:Ctx} (a:Q1) (c:Bool):Rep x (.tup [.str a,.bool c]) (.tuple #[.string a,.bool c]):=.tup _ _ rfl fun i p v hp hv=>by
 match i,hp,hv with
 | 0,hp,hv=>injection hp with hp;injection hv with hv;subst hp hv;exact .str _
 | 1,hp,hv=>injection hp with hp;injection hv with hv;subst hp hv;exact .bool _
 | i+2,hp,_=>simp at hp
theorem args1 {x:Ctx} {p:PV} {vs:Array Value} (h:Pre x [p] none vs):∃ v,vs = #[v]/\Rep x p v:=by
 obtain ⟨v,hv⟩:∃ v,vs = #[v]:=Array.size_eq_one_iff.1 h.size.symm
 exact ⟨v,hv,h.rep 0 _ _ rfl (by rw [hv];rfl)⟩
theorem ZoC (l:Q3 Node) (r:Q1×Bool) (h:NJ l=some r):Zg Tryz.prog 117 [.sl (List.map Node.cs l)] (.tup [.str r.1,.bool r.2]):=by{
obtain ⟨o,ho,hv⟩:∃ o,GZ [] l=some o/\X4 o = .tuple #[.string r.1,.bool r.2]:=by
 unfold NJ at h
 split at h
 cases h;exact ⟨_,‹_›,rfl⟩
 cases h;exact ⟨_,‹_›,rfl⟩
 cases h
exact bD (by kernel_rfl) rfl (fun x=>ZzI _ _) fun x vs hp _=>by
 obtain ⟨v,rfl,h1⟩:=args1 hp
 obtain ⟨A,n,c,xs,rfl,hS,he⟩:=ZoB hp.flt h1
 rw [<- hv]
 exact ZtS A n c xs o ((he []).trans ho) x.W hS}
end
section
open VL
def H0 (p0:Q3 Node):Q2 (Title×Bool):=(NJ p0).bind fun r1=>(PX r1.1).bind fun r2=>letk (fun (x5:Bool)=>if x5 then (some ((⟨0,(⟨#[]⟩:Q1)⟩:Title),false):Q2 (Title×Bool)) else (NB r2).bind fun r6=>if (!decide (r6.2=0)) then (some ((⟨0,(⟨#[]⟩:Q1)⟩:Title),false):Q2 (Title×Bool)) else letk (fun (x8:Bool)=>letk (fun (x9:Int)=>(some ((⟨x9,r6.1.name⟩:Title),true):Q2 (Title×Bool))) fun k3=>if x8 then k3 3 else k3 r6.1.space) fun k2=>if decide (r6.1.space=0) then (ZR r2 ⟨#[58]⟩).bind fun r10=>k2 (!r10) else k2 false) fun k1=>if (!r1.2) then k1 true else (ZR r2 ⟨#[35]⟩).bind fun r11=>if r11 then k1 true else (ZR r2 ⟨#[47]⟩).bind fun r12=>k1 r12
theorem Zkg (p0:Q3 Node) (r:Title×Bool) (h:H0 p0=some r):Zg Tryz.prog 67 [.sl (List.map Node.cs p0)] (.tup [r.1.pv,.bool r.2]):=by{
refine cF (fun r=>.tup [r.1.pv,.bool r.2]) h mix Tryz.func67 fun r h=>?_
unfold H0 at h
refine Zj ?_
refine rg ?_
refine rg ?_
refine aC h (ZoC _) fun r1 h=>?_
refine rg ?_
refine aC h (mB _) fun r2 h=>?_
refine jL h (fun x5=>mkS [(2,.ptr 2 (1,2) 0),(6,.str r2),(25,.bool x5)] [(2,some ((1,2),.box [.int .i64 0,.str ⟨#[]⟩]))] 2) (fun k1 h=>?_) fun x5 h=>?_
refine rg ?_
refine kS 18 h rfl (fun h=>?_) fun h=>?_
iterate 4 refine Zw rfl (Zj ?_)
exact jn true h (sR [(2,1,0)])
refine aC h (LN _ _) fun r11 h=>?_
refine kS 22 h rfl (fun h=>?_) fun h=>?_
iterate 2 refine Zw rfl (Zj ?_)
exact jn true h (sR [(2,1,0)])
refine aC h (LN _ _) fun r12 h=>?_
exact jn r12 h (sR [(2,1,0)])
refine cS h rfl (fun h=>?_) fun h=>?_
refine rg ?_
cases h
exact rQ
refine rg ?_
refine aC h (dM _) fun r6 h=>?_
refine rg ?_
refine cS h rfl (fun h=>?_) fun h=>?_
refine rg ?_
cases h
exact rQ
refine jL h (fun x8=>mkS [(2,.ptr 2 (1,2) 0),(7,.ptr 7 (1,7) 0),(42,.bool x8)] [(2,some ((1,2),.box [.int .i64 0,.str ⟨#[]⟩])),(7,some ((1,7),.box (Title.cs r6.1)))] 2) (fun k2 h=>?_) fun x8 h=>?_
refine rg ?_
refine kS 38 h rfl (fun h=>?_) fun h=>?_
refine aC h (LN _ _) fun r10 h=>?_
exact jn (!r10) h (sR [(2,1,2),(7,2,5)])
iterate 3 refine Zw rfl (Zj ?_)
exact jn false h (sR [(2,1,2),(7,2,5)])
refine jL h (fun x9=>mkS [(2,.ptr 2 (1,2) 0),(7,.ptr 7 (1,7) 0)] [(2,some ((1,2),.box [.int .i64 0,.str ⟨#[]⟩])),(7,some ((1,7),.box [.int .i64 x9,.str r6.1.name]))] 2) (fun k3 h=>?_) fun x9 h=>?_
refine cS h rfl (fun h=>?_) fun h=>?_
refine rg ?_
exact jn 3 h (sR [(2,1,2),(7,1,7)])
exact jn r6.1.space h (sR [(2,1,2),(7,1,7)])
refine rg ?_
cases h
exact rQ}
def KQ:Nat->Finder->(Q3 Node)->Q2 Finder | 0,_,_=>none | mF+1,p0,p1=>A3 A9 (fun f7 ((x13,x14,x15):Int×(Q3 Link)×(Q3 Memb))=>if decide (x13<(p1.length:Int)) then letk (fun (x33:Q3 Link) (x34:Q3 Memb)=>f7 ((w64 (x13+1)),x33,x34)) fun k9=>(atI p1 x13).bind fun e35=>if decide (e35.kind=1) then (Q0 (⟨x14,x15⟩:Finder) e35.text).bind fun r36=>k9 r36.links r36.members else letk (fun (x37:Bool)=>if x37 then (AU e35.kids).bind fun l38=>(KQ mF (⟨x14,x15⟩:Finder) l38).bind fun r39=>k9 r39.links r39.members else k9 x14 x15) fun k10=>if decide (e35.kind=6) then k10 (!decide (e35.tag=2)) else k10 false else (some (⟨x14,x15⟩:Finder):Q2 Finder)) (0,p0.links,p0.members)
theorem Zi1 (mF:Nat):∀ (p0:Finder) (p1:Q3 Node) (r:Finder),KQ mF p0 p1=some r->ContractP Tryz.prog 30 [.ptr 0 (0,0) 0,.sl (List.map Node.cs p1)] 0 [.row 42 3 false (List.map Link.cs p0.links),.row 45 3 false (List.map Memb.cs p0.members)] (.tup []) [.row 42 3 false (List.map Link.cs r.links),.row 45 3 false (List.map Memb.cs r.members)]:=by{
induction mF with
| zero=>intro p0 p1 r h;cases h
| succ mF ihF=>
intro p0 p1 r h
refine bQ (R:=fun r=>.tup []) (O:=fun r=>[.row 42 3 false (List.map Link.cs r.links),.row 45 3 false (List.map Memb.cs r.members)]) h mix Tryz.func30 (by kernel_rfl) rfl (by kernel_rfl) rfl fun r h=>?_
simp only [KQ] at h
refine Zj ?_
refine rg ?_
refine lM Node.cs p1 ?_
refine bl ?_
refine Zz h fun f7 mf7 hf7 h=>?_
refine Zu (α:=Nat×(Int×(Q3 Link)×(Q3 Memb))) (fun a _=>mkS [(0,.ptr 0 (0,0) 0),(6,.sl (List.map Node.cs p1)),(7,.int .i64 (p1.length:Int)),(8,.int .i64 a.2.1)] [(0,some ((0,0),.box [.row 1000 (1,1000),.row 1001 (1,1001)])),(1000,some ((1,1000),.row 42 3 false (List.map Link.cs a.2.2.1))),(1001,some ((1,1001),.row 45 3 false (List.map Memb.cs a.2.2.2)))] 2) (fun a=>A3 a.1 f7 a.2=some r) (fun a=>a.1) (mf7,0,p0.links,p0.members) 2 h (sR [(1000,0,1000),(1001,0,1001)]) (fun a _ h=>?_)
obtain ⟨mf7,x13,x14,x15⟩:=a
obtain ⟨mf7,rfl,h⟩:=ZA hf7 h
dsimp only at h ⊢
refine Zj ?_
refine rg ?_
refine cS h rfl (fun h=>?_) fun h=>?_
refine FO h fun k9 hk9 h=>?_
refine DM (α:=(Q3 Link)×(Q3 Memb)) (fun a _=>mkS [(0,.ptr 0 (0,0) 0),(6,.sl (List.map Node.cs p1)),(7,.int .i64 (p1.length:Int)),(8,.int .i64 x13)] [(0,some ((0,0),.box [.row 1000 (1,1000),.row 1001 (1,1001)])),(1000,some ((1,1000),.row 42 3 false (List.map Link.cs a.1))),(1001,some ((1,1001),.row 45 3 false (List.map Memb.cs a.2)))] 2) (fun a=>k9 a.1 a.2=some r) (Zj ?_) (fun a _ h=>?_)
refine bl ?_
refine rg ?_
refine aI Node.cs h fun e35 h=>?_
refine bl ?_
refine rg ?_
refine cS h rfl (fun h=>?_) fun h=>?_
refine rg ?_
obtain ⟨r36,h22,h⟩:=bnd h
refine N3 (ZgB _ _ _ h22) rfl rfl rfl rfl rfl rfl rfl rfl (Zj ?_)
exact jn (r36.links,r36.members) h (sR [(1000,5,1000003),(1001,5,2000003)])
refine jL h (fun x37=>mkS [(0,.ptr 0 (0,0) 0),(5,.ptr 5 (1,5) 0),(6,.sl (List.map Node.cs p1)),(7,.int .i64 (p1.length:Int)),(8,.int .i64 x13),(20,.bool x37)] [(0,some ((0,0),.box [.row 1000 (1,1000),.row 1001 (1,1001)])),(5,some ((1,5),.box [.int .i64 e35.kind,.int .i64 e35.tag,.str e35.text,.sl e35.kids,.sl e35.args])),(1000,some ((1,1000),.row 42 3 false (List.map Link.cs x14))),(1001,some ((1,1001),.row 45 3 false (List.map Memb.cs x15)))] 2) (fun k10 h=>?_) fun x37 h=>?_
refine rg ?_
refine kS 24 h rfl (fun h=>?_) fun h=>?_
exact jn (!decide (e35.tag=2)) h (sR [(5,3,2),(1000,1,1000),(1001,1,1001)])
iterate 3 refine Zw rfl (Zj ?_)
exact jn false h (sR [(5,3,2),(1000,1,1000),(1001,1,1001)])
refine cS h rfl (fun h=>?_) fun h=>?_
refine rg ?_
obtain ⟨l38,h23,h⟩:=bnd h
refine EB 31 (GB h23) rfl (Zj ?_)
obtain ⟨r39,h24,h⟩:=bnd h
refine N3 (ihF _ _ _ h24) rfl rfl rfl rfl rfl rfl rfl rfl (Zj ?_)
exact jn (r39.links,r39.members) h (sR [(1000,2,1000003),(1001,2,2000003)])
exact jn (x14,x15) h (sR [(1000,1,1000),(1001,1,1001)])
obtain ⟨x33,x34⟩:=a
subst hk9
dsimp only at h ⊢
refine Zj ?_
refine rg ?_
exact rn (mf7,(w64 (x13+1)),x33,x34) h (sR [(1000,1,1000),(1001,1,1001)])
cases h
exact iY rfl rfl rfl rfl rfl rfl}
def Zo:Nat->Finder->(Q3 Node)->Q2 Finder | 0,_,_=>none | mF+1,p0,p1=>A3 A9 (fun f15 ((x93,x94,x95):Int×(Q3 Link)×(Q3 Memb))=>if decide (x93<(p1.length:Int)) then letk (fun (x233:Q3 Link) (x234:Q3 Memb)=>f15 ((w64 (x93+1)),x233,x234)) fun k19=>(atI p1 x93).bind fun e235=>letk (fun (x236:Bool)=>if x236 then k19 x94 x95 else letk (fun (x240:Q3 Link)=>(AU e235.kids).bind fun l241=>(Zo mF (⟨x240,x95⟩:Finder) l241).bind fun r242=>(DP e235.args).bind fun l243=>A3 A9 (fun f22 ((x254,x255,x256):Int×(Q3 Link)×(Q3 Memb))=>if decide (x254<(l243.length:Int)) then (atI l243 x254).bind fun e272=>(AU e272.name).bind fun l273=>(Zo mF (⟨x255,x256⟩:Finder) l273).bind fun r274=>(AU e272.value).bind fun l275=>(Zo mF r274 l275).bind fun r276=>f22 ((w64 (x254+1)),r276.links,r276.members) else k19 x255 x256) (0,r242.links,r242.members)) fun k21=>if decide (e235.kind=4) then (AU e235.kids).bind fun l277=>(H0 l277).bind fun r278=>if r278.2 then (A8 32 x94 [(⟨2,r278.1⟩:Link)]).bind fun l279=>k21 l279 else k21 x94 else k21 x94) fun k20=>if decide (e235.kind=6) then k20 (decide (e235.tag=2)) else k20 false else (some (⟨x94,x95⟩:Finder):Q2 Finder)) (0,p0.links,p0.members)
theorem ZfY (mF:Nat):∀ (p0:Finder) (p1:Q3 Node) (r:Finder),Zo mF p0 p1=some r->ContractP Tryz.prog 31 [.ptr 0 (0,0) 0,.sl (List.map Node.cs p1)] 0 [.row 42 3 false (List.map Link.cs p0.links),.row 45 3 false (List.map Memb.cs p0.members)] (.tup []) [.row 42 3 false (List.map Link.cs r.links),.row 45 3 false (List.map Memb.cs r.members)]:=by{
induction mF with
| zero=>intro p0 p1 r h;cases h
| succ mF ihF=>
intro p0 p1 r h
refine bQ (R:=fun r=>.tup []) (O:=fun r=>[.row 42 3 false (List.map Link.cs r.links),.row 45 3 false (List.map Memb.cs r.members)]) h mix Tryz.func31 (by kernel_rfl) rfl (by kernel_rfl) rfl fun r h=>?_
simp only [Zo] at h
refine Zj ?_
refine rg ?_
refine lM Node.cs p1 ?_
refine bl ?_
refine Zz h fun f15 mf15 hf15 h=>?_
refine Zu (α:=Nat×(Int×(Q3 Link)×(Q3 Memb))) (fun a _=>mkS [(0,.ptr 0 (0,0) 0),(10,.sl (List.map Node.cs p1)),(11,.int .i64 (p1.length:Int)),(12,.int .i64 a.2.1)] [(0,some ((0,0),.box [.row 1000 (1,1000),.row 1001 (1,1001)])),(1000,some ((1,1000),.row 42 3 false (List.map Link.cs a.2.2.1))),(1001,some ((1,1001),.row 45 3 false (List.map Memb.cs a.2.2.2)))] 2) (fun a=>A3 a.1 f15 a.2=some r) (fun a=>a.1) (mf15,0,p0.links,p0.members) 2 h (sR [(1000,0,1000),(1001,0,1001)]) (fun a _ h=>?_)
obtain ⟨mf15,x93,x94,x95⟩:=a
obtain ⟨mf15,rfl,h⟩:=ZA hf15 h
dsimp only at h ⊢
refine Zj ?_
refine rg ?_
refine cS h rfl (fun h=>?_) fun h=>?_
refine FO h fun k19 hk19 h=>?_
refine DM (α:=(Q3 Link)×(Q3 Memb)) (fun a _=>mkS [(0,.ptr 0 (0,0) 0),(10,.sl (List.map Node.cs p1)),(11,.int .i64 (p1.length:Int)),(12,.int .i64 x93)] [(0,some ((0,0),.box [.row 1000 (1,1000),.row 1001 (1,1001)])),(1000,some ((1,1000),.row 42 3 false (List.map Link.cs a.1))),(1001,some ((1,1001),.row 45 3 false (List.map Memb.cs a.2)))] 2) (fun a=>k19 a.1 a.2=some r) (Zj ?_) (fun a _ h=>?_)
refine bl ?_
refine rg ?_
refine aI Node.cs h fun e235 h=>?_
refine jL h (fun x236=>mkS [(0,.ptr 0 (0,0) 0),(5,.ptr 5 (1,5) 0),(10,.sl (List.map Node.cs p1)),(11,.int .i64 (p1.length:Int)),(12,.int .i64 x93),(23,.bool x236)] [(0,some ((0,0),.box [.row 1000 (1,1000),.row 1001 (1,1001)])),(5,some ((1,5),.box [.int .i64 e235.kind,.int .i64 e235.tag,.str e235.text,.sl e235.kids,.sl e235.args])),(1000,some ((1,1000),.row 42 3 false (List.map Link.cs x94))),(1001,some ((1,1001),.row 45 3 false (List.map Memb.cs x95)))] 2) (fun k20 h=>?_) fun x236 h=>?_
refine rg ?_
refine kS 19 h rfl (fun h=>?_) fun h=>?_
exact jn (decide (e235.tag=2)) h (sR [(5,3,2),(1000,1,1000),(1001,1,1001)])
iterate 3 refine Zw rfl (Zj ?_)
exact jn false h (sR [(5,3,2),(1000,1,1000),(1001,1,1001)])
refine cS h rfl (fun h=>?_) fun h=>?_
exact jn (x94,x95) h (sR [(1000,1,1000),(1001,1,1001)])
refine rg ?_
refine jL h (fun x240=>mkS [(0,.ptr 0 (0,0) 0),(5,.ptr 5 (1,5) 0),(10,.sl (List.map Node.cs p1)),(11,.int .i64 (p1.length:Int)),(12,.int .i64 x93)] [(0,some ((0,0),.box [.row 1000 (1,1000),.row 1001 (1,1001)])),(5,some ((1,5),.box [.int .i64 e235.kind,.int .i64 e235.tag,.str e235.text,.sl e235.kids,.sl e235.args])),(1000,some ((1,1000),.row 42 3 false (List.map Link.cs x240))),(1001,some ((1,1001),.row 45 3 false (List.map Memb.cs x95)))] 2) (fun k21 h=>?_) fun x240 h=>?_
refine cS h rfl (fun h=>?_) fun h=>?_
refine rg ?_
obtain ⟨l277,h238,h⟩:=bnd h
refine EB 29 (GB h238) rfl (Zj ?_)
refine aC h (Zkg _) fun r278 h=>?_
refine rg ?_
refine cS h rfl (fun h=>?_) fun h=>?_
refine rg ?_
refine CT (M:=([(⟨2,r278.1⟩:Link)]:Q3 Link)) (f:=Link.cs) rfl rfl rfl rfl (Yk rfl) rfl (Zj ?_)
refine pR Link.cs h fun l279 h=>?_
exact jn l279 h (sR [(5,1,5),(1000,5,8),(1001,1,1001)])
exact jn x94 h (sR [(5,1,5),(1000,1,1000),(1001,1,1001)])
exact jn x94 h (sR [(5,1,5),(1000,1,1000),(1001,1,1001)])
refine rg ?_
obtain ⟨l241,h205,h⟩:=bnd h
refine EB 47 (GB h205) rfl (Zj ?_)
obtain ⟨r242,h206,h⟩:=bnd h
refine N3 (ihF _ _ _ h206) rfl rfl rfl rfl rfl rfl rfl rfl (Zj ?_)
refine rg ?_
obtain ⟨l243,h207,h⟩:=bnd h
refine EB 50 (VW h207) rfl (Zj ?_)
refine lM Arg.cs l243 ?_
refine bl ?_
refine Zz h fun f22 mf22 hf22 h=>?_
refine Zu (α:=Nat×(Int×(Q3 Link)×(Q3 Memb))) (fun a _=>mkS [(0,.ptr 0 (0,0) 0),(10,.sl (List.map Node.cs p1)),(11,.int .i64 (p1.length:Int)),(12,.int .i64 x93),(50,.sl (List.map Arg.cs l243)),(51,.int .i64 (l243.length:Int)),(52,.int .i64 a.2.1)] [(0,some ((0,0),.box [.row 1000 (1,1000),.row 1001 (1,1001)])),(1000,some ((1,1000),.row 42 3 false (List.map Link.cs a.2.2.1))),(1001,some ((1,1001),.row 45 3 false (List.map Memb.cs a.2.2.2)))] 2) (fun a=>A3 a.1 f22 a.2=some r) (fun a=>a.1) (mf22,0,r242.links,r242.members) 2 h (sR [(1000,2,1000003),(1001,2,2000003)]) (fun a _ h=>?_)
obtain ⟨mf22,x254,x255,x256⟩:=a
obtain ⟨mf22,rfl,h⟩:=ZA hf22 h
dsimp only at h ⊢
refine Zj ?_
refine rg ?_
refine cS h rfl (fun h=>?_) fun h=>?_
refine bl ?_
refine rg ?_
refine aI Arg.cs h fun e272 h=>?_
refine rg ?_
obtain ⟨l273,h234,h⟩:=bnd h
refine EB 58 (GB h234) rfl (Zj ?_)
obtain ⟨r274,h235,h⟩:=bnd h
refine N3 (ihF _ _ _ h235) rfl rfl rfl rfl rfl rfl rfl rfl (Zj ?_)
refine rg ?_
obtain ⟨l275,h236,h⟩:=bnd h
refine EB 62 (GB h236) rfl (Zj ?_)
obtain ⟨r276,h237,h⟩:=bnd h
refine N3 (ihF _ _ _ h237) rfl rfl rfl rfl rfl rfl rfl rfl (Zj ?_)
refine rg ?_
exact rn (mf22,(w64 (x254+1)),r276.links,r276.members) h (sR [(1000,5,1000003),(1001,5,2000003)])
exact jn (x255,x256) h (sR [(1000,1,1000),(1001,1,1001)])
obtain ⟨x233,x234⟩:=a
subst hk19
dsimp only at h ⊢
refine Zj ?_
refine rg ?_
exact rn (mf15,(w64 (x93+1)),x233,x234) h (sR [(1000,1,1000),(1001,1,1001)])
cases h
exact iY rfl rfl rfl rfl rfl rfl}
end
section
open Go.RowKit
theorem nZ (a b:Link) (W:World):(binOp .eql 42 (.agg #[.int .i64 a.kind,.int .i64 a.title.space,.string a.title.name]) (.agg #[.int .i64 b.kind,.int .i64 b.title.space,.string b.title.name])).run Tryz.prog W = .ok (.bool (decide (a=b))) W:=by{
have e:(if a.kind=b.kind then if a.title.space=b.title.space then if a.title.name.toList=b.title.name.toList then true else false else false else false)=(decide (a=b)):=by
 obtain ⟨a1,⟨a2,a3⟩⟩:=a
 obtain ⟨b1,⟨b2,b3⟩⟩:=b
 simp only [Link.mk.injEq,Title.mk.injEq,OH]
 (repeat' split)<;>simp_all
rw [<- e]
go_simp
(repeat' split)<;>simp_all}
theorem o4 (a b:Link) (W:World):(binOp .neq 42 (.agg #[.int .i64 a.kind,.int .i64 a.title.space,.string a.title.name]) (.agg #[.int .i64 b.kind,.int .i64 b.title.space,.string b.title.name])).run Tryz.prog W = .ok (.bool (!decide (a=b))) W:=by{
have e:(if a.kind=b.kind then if a.title.space=b.title.space then if a.title.name.toList=b.title.name.toList then false else true else true else true)=(!decide (a=b)):=by
 obtain ⟨a1,⟨a2,a3⟩⟩:=a
 obtain ⟨b1,⟨b2,b3⟩⟩:=b
 simp only [Link.mk.injEq,Title.mk.injEq,OH]
 (repeat' split)<;>simp_all
rw [<- e]
go_simp
(repeat' split)<;>simp_all}
theorem ZxV (a b:Memb) (W:World):(binOp .neq 45 (.agg #[.int .i64 a.category.space,.string a.category.name,.string a.sort]) (.agg #[.int .i64 b.category.space,.string b.category.name,.string b.sort])).run Tryz.prog W = .ok (.bool (!decide (a=b))) W:=by{
have e:(if a.category.space=b.category.space then if a.category.name.toList=b.category.name.toList then if a.sort.toList=b.sort.toList then false else true else true else true)=(!decide (a=b)):=by
 obtain ⟨⟨a1,a2⟩,a3⟩:=a
 obtain ⟨⟨b1,b2⟩,b3⟩:=b
 simp only [Memb.mk.injEq,Title.mk.injEq,OH]
 (repeat' split)<;>simp_all
rw [<- e]
go_simp
(repeat' split)<;>simp_all}
end
section
open VL Go.RowKit
def strings_Compare (a b:Q1):Q2 Int:=some (Lib.compareBytes a.data.toList b.data.toList)
theorem Zju (a b:Q1) (r:Int) (h:strings_Compare a b=some r):Zg Tryz.prog 71 [.str a,.str b] (.int .i64 r):=by
 unfold strings_Compare at h
 cases h
 exact HC (vals:=[.string a,.string b]) (by kernel_rfl) rfl rfl (fun x=>.int _ _) fun w hw=>(jI a b w).mono fun e w' ⟨h1,h2⟩=>⟨h1,by rw [<- h2];exact Below.refl _ _⟩
end
end Go.Proofs.YtmgfammllddkhaaGreatDoor
