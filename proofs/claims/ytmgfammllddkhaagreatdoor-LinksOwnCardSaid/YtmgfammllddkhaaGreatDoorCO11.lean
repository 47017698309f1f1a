/- The parser's text: it is joined to the text before it, or a -/
import Derived.Test.YtmgfammllddkhaaGreatDoorCO10
set_option linter.unusedSimpArgs false
set_option maxRecDepth 100000
set_option maxHeartbeats 2000000
namespace Go.Proofs.YtmgfammllddkhaaGreatDoor
section
open VL
theorem GE {α:Type} (l:Q3 α) (a:α):(l ++ [a]).length=l.length+1:=by simp
theorem ZsV (e:El) (r:Q3 El):PC 102 [.str ⟨#[]⟩] e r (.tup []) e r:=by{
refine ZG mix Tryz.func102 (by kernel_rfl) rfl (by kernel_rfl) ?_
rw [CV]
repeat (first | (refine Zv rfl rfl ?_) | refine Zr rfl (by (conv=>lhs;whnf);try rfl) ?_ | refine HA rfl rfl rfl rfl (by (conv=>lhs;whnf);try rfl) ?_ | refine Zf ?_ | refine Zl ?_ | refine Zb ?_ | refine CI ?_)
exact BX (.inl rfl) νa [] [] rfl rfl trivial rfl rfl}
theorem Zrv (e:El) (r:Q3 El) (s:Q1) (h0:s≠⟨#[]⟩) (hs:small e r) (l':Q3 (Q3 PV)) (ha:e.args=none) (h63:e.list.length<=9223372036854775807) (hR:GY e.list s=some l'):PC 102 [.str s] e r (.tup []) ⟨e.kind,e.tag,e.count,l',e.args⟩ r:=by{
refine ZG mix Tryz.func102 (by kernel_rfl) rfl (by kernel_rfl) ?_
rw [CV]
have h:e.kind≠3\/e.args=none:=.inr ha
obtain ⟨kind,tag,count,list,args⟩:=e
obtain rfl:args=none:=ha
simp only [] at h63
repeat (first | refine Zr rfl (by (conv=>lhs;whnf);try rfl) ?_ | refine HA rfl rfl rfl rfl (by (conv=>lhs;whnf);try rfl) ?_ | refine Zf ?_ | refine Zl ?_ | refine Zb ?_)
rw [Yf h0]
rcases WV hR with ⟨hl,hR⟩ | ⟨init,n,hl,⟨hk,y,hy,rfl⟩ | ⟨hk,hR⟩⟩
·obtain ⟨h1,h2,rfl⟩:=GS hR
 dsimp only at hl
 subst hl
 repeat (first | (refine Zk rfl rfl ?_) | (refine C9 [] νa (CE _ r hs.1) rfl rfl rfl rfl rfl rfl ?_) | (refine I0 [] νa (M4 _ h hs.2) rfl rfl rfl rfl rfl ?_) | (refine JA rfl rfl rfl rfl h1 h2 (by rfl) ?_) | (refine ES (n:=List.length ([]:Q3 (Q3 PV))) rfl rfl rfl rfl (by simp) ?_) | (refine I1 rfl rfl rfl (D0 _ _) rfl rfl rfl rfl (Yk rfl) rfl (EG _ _ _) ?_) | (refine Zw rfl ?_) | refine Zr rfl (by (conv=>lhs;whnf);try rfl) ?_ | refine ZJ rfl rfl rfl ?_ | refine Zs rfl (by (conv=>lhs;whnf);try rfl) ?_ | refine A7 rfl rfl rfl rfl (by (conv=>lhs;whnf);try rfl) ?_ | refine AA rfl rfl ?_ | refine G5 rfl rfl ?_ | refine BS rfl rfl rfl (by (conv=>lhs;whnf);try rfl) (by (conv=>lhs;whnf);try rfl) (by rfl) (by rfl) (Yk rfl) (by (conv=>lhs;whnf);try rfl) ?_ | refine D4 rfl rfl ?_ | refine E9 rfl rfl rfl (by rfl) (by decide) (by (conv=>lhs;whnf);try rfl) ?_ | refine B5 rfl rfl (by (conv=>lhs;whnf);try rfl) ?_ | refine Zf ?_ | refine EU (by kernel_rfl) ?_ | refine Zl ?_ | refine Zb ?_ | refine ZH ?_ | refine ZE ?_)
 exact FU (.inr rfl) (0,0) (0,1000) (fun k=>if k=1002 then (5,7) else νa k) νa [_,_,_,_] [] rfl rfl trivial rfl rfl (Zp rfl (Zp rfl (Zp rfl (AO _)))) rfl rfl
·dsimp only at hl
 subst hl
 rw [GE] at h63
 obtain ⟨k0,t0,s0,ks,ag⟩:=n
 dsimp only at hk hy
 subst hk
 repeat (first | (refine Zk rfl rfl ?_) | (refine C9 [] νa (CE _ r hs.1) rfl rfl rfl rfl rfl rfl ?_) | (refine I0 [] νa (M4 _ h hs.2) rfl rfl rfl rfl rfl ?_) | (refine CO rfl rfl (GE _ _) ?_) | refine Zr rfl (by (conv=>lhs;whnf);try rfl) ?_ | refine ZJ rfl rfl rfl ?_ | refine Zs rfl (by (conv=>lhs;whnf);try rfl) ?_ | refine A7 rfl rfl rfl rfl (by (conv=>lhs;whnf);try rfl) ?_ | refine AA rfl rfl ?_ | refine Zf ?_ | refine Zl ?_ | refine Zb ?_ | refine ZH ?_)
 rw [show decide ((0:Int)<((init.length+1:Nat):Int))=true from Yh (by omega)]
 repeat (first | (refine Zv rfl rfl ?_) | (refine EV rfl rfl rfl (by omega) ?_) | (refine ES (n:=init.length) rfl rfl rfl rfl (by simp) ?_) | (refine Q6 rfl rfl rfl (D0 _ _) rfl ?_) | (refine VG rfl hy rfl rfl ?_) | (refine I1 rfl rfl rfl (D0 _ _) rfl rfl rfl rfl (Yk rfl) rfl (EG _ _ _) ?_) | refine Zr rfl (by (conv=>lhs;whnf);try rfl) ?_ | refine ZJ rfl rfl rfl ?_ | refine Zm rfl rfl ?_ | refine A7 rfl rfl rfl rfl (by (conv=>lhs;whnf);try rfl) ?_ | refine AA rfl rfl ?_ | refine B5 rfl rfl (by (conv=>lhs;whnf);try rfl) ?_ | refine Zf ?_ | refine Zl ?_ | refine Zb ?_ | refine CI ?_)
 exact FU (.inl rfl) (0,0) (0,1000) νa νa [_] [] rfl rfl trivial rfl rfl (Zp rfl (Zp rfl (Zp rfl (AO _)))) rfl rfl
·obtain ⟨h1,h2,rfl⟩:=GS hR
 dsimp only at hl
 subst hl
 rw [GE] at h63
 repeat (first | (refine Zk rfl rfl ?_) | (refine C9 [] νa (CE _ r hs.1) rfl rfl rfl rfl rfl rfl ?_) | (refine I0 [] νa (M4 _ h hs.2) rfl rfl rfl rfl rfl ?_) | (refine CO rfl rfl (GE _ _) ?_) | refine Zr rfl (by (conv=>lhs;whnf);try rfl) ?_ | refine ZJ rfl rfl rfl ?_ | refine Zs rfl (by (conv=>lhs;whnf);try rfl) ?_ | refine A7 rfl rfl rfl rfl (by (conv=>lhs;whnf);try rfl) ?_ | refine AA rfl rfl ?_ | refine Zf ?_ | refine Zl ?_ | refine Zb ?_ | refine ZH ?_)
 rw [show decide ((0:Int)<((init.length+1:Nat):Int))=true from Yh (by omega)]
 repeat (first | (refine EV rfl rfl rfl (by omega) ?_) | (refine ES (n:=init.length) rfl rfl rfl rfl (by simp) ?_) | (refine Q6 rfl rfl rfl (D0 _ _) rfl ?_) | refine Zr rfl (by (conv=>lhs;whnf);try rfl) ?_ | refine ZJ rfl rfl rfl ?_ | refine Zm rfl rfl ?_ | refine A7 rfl rfl rfl rfl (by (conv=>lhs;whnf);try rfl) ?_ | refine AA rfl rfl ?_ | refine B5 rfl rfl (by (conv=>lhs;whnf);try rfl) ?_ | refine Zf ?_)
 rw [Yf hk]
 repeat (first | (refine Zk rfl rfl ?_) | (refine JA rfl rfl rfl rfl h1 h2 (by rfl) ?_) | (refine ES (n:=List.length (init ++ [Node.cs n])) rfl rfl rfl rfl (by simp) ?_) | (refine I1 rfl rfl rfl (D0 _ _) rfl rfl rfl rfl (Yk rfl) rfl (EG _ _ _) ?_) | refine Zr rfl (by (conv=>lhs;whnf);try rfl) ?_ | refine ZJ rfl rfl rfl ?_ | refine AA rfl rfl ?_ | refine G5 rfl rfl ?_ | refine BS rfl rfl rfl (by (conv=>lhs;whnf);try rfl) (by (conv=>lhs;whnf);try rfl) (by rfl) (by rfl) (Yk rfl) (by (conv=>lhs;whnf);try rfl) ?_ | refine D4 rfl rfl ?_ | refine E9 rfl rfl rfl (by rfl) (by decide) (by (conv=>lhs;whnf);try rfl) ?_ | refine EU (by kernel_rfl) ?_ | refine Zb ?_ | refine ZH ?_ | refine ZE ?_)
 exact FU (.inr rfl) (0,0) (0,1000) (fun k=>if k=1002 then (5,7) else νa k) νa [_,_,_,_] [] rfl rfl trivial rfl rfl (Zp rfl (Zp rfl (Zp rfl (AO _)))) rfl rfl}
theorem Zrw (e:El) (r:Q3 El) (s:Q1) (h0:s≠⟨#[]⟩) (hs:small e r) (l':Q3 (Q3 PV)) (h:e.kind≠3\/e.args=none) (ha:e.args≠none) (h63:e.list.length<=9223372036854775807) (hR:GY e.list s=some l'):PC 102 [.str s] e r (.tup []) ⟨e.kind,e.tag,e.count,l',e.args⟩ r:=by{
refine ZG mix Tryz.func102 (by kernel_rfl) rfl (by kernel_rfl) ?_
rw [CV]
obtain ⟨kind,tag,count,list,args⟩:=e
rcases args with _ | ⟨pre,a⟩
exact absurd rfl ha
simp only [] at h63
repeat (first | refine Zr rfl (by (conv=>lhs;whnf);try rfl) ?_ | refine HA rfl rfl rfl rfl (by (conv=>lhs;whnf);try rfl) ?_ | refine Zf ?_ | refine Zl ?_ | refine Zb ?_)
rw [Yf h0]
rcases WV hR with ⟨hl,hR⟩ | ⟨init,n,hl,⟨hk,y,hy,rfl⟩ | ⟨hk,hR⟩⟩
·obtain ⟨h1,h2,rfl⟩:=GS hR
 dsimp only at hl
 subst hl
 repeat (first | (refine Zk rfl rfl ?_) | (refine C9 [] νa (CE _ r hs.1) rfl rfl rfl rfl rfl rfl ?_) | (refine I0 [] νa (M4 _ h hs.2) rfl rfl rfl rfl rfl ?_) | (refine JA rfl rfl rfl rfl h1 h2 (by rfl) ?_) | (refine ES (n:=List.length ([]:Q3 (Q3 PV))) rfl rfl rfl rfl (by simp) ?_) | (refine I1 rfl rfl rfl (D0 _ _) rfl rfl rfl rfl (Yk rfl) rfl (EG _ _ _) ?_) | (refine Zw rfl ?_) | refine Zr rfl (by (conv=>lhs;whnf);try rfl) ?_ | refine ZJ rfl rfl rfl ?_ | refine Zs rfl (by (conv=>lhs;whnf);try rfl) ?_ | refine A7 rfl rfl rfl rfl (by (conv=>lhs;whnf);try rfl) ?_ | refine AA rfl rfl ?_ | refine G5 rfl rfl ?_ | refine BS rfl rfl rfl (by (conv=>lhs;whnf);try rfl) (by (conv=>lhs;whnf);try rfl) (by rfl) (by rfl) (Yk rfl) (by (conv=>lhs;whnf);try rfl) ?_ | refine D4 rfl rfl ?_ | refine E9 rfl rfl rfl (by rfl) (by decide) (by (conv=>lhs;whnf);try rfl) ?_ | refine B5 rfl rfl (by (conv=>lhs;whnf);try rfl) ?_ | refine Zf ?_ | refine EU (by kernel_rfl) ?_ | refine Zl ?_ | refine Zb ?_ | refine ZH ?_ | refine ZE ?_)
 exact FU (.inr rfl) (0,0) (0,1000) (fun k=>if k=1002 then (5,7) else νa k) νa [_,_,_,_] [] rfl rfl trivial rfl rfl (Zp rfl (Zp rfl (Zp rfl (Zp rfl (AO _))))) rfl rfl
·dsimp only at hl
 subst hl
 rw [GE] at h63
 obtain ⟨k0,t0,s0,ks,ag⟩:=n
 dsimp only at hk hy
 subst hk
 repeat (first | (refine Zk rfl rfl ?_) | (refine C9 [] νa (CE _ r hs.1) rfl rfl rfl rfl rfl rfl ?_) | (refine I0 [] νa (M4 _ h hs.2) rfl rfl rfl rfl rfl ?_) | (refine CO rfl rfl (GE _ _) ?_) | refine Zr rfl (by (conv=>lhs;whnf);try rfl) ?_ | refine ZJ rfl rfl rfl ?_ | refine Zs rfl (by (conv=>lhs;whnf);try rfl) ?_ | refine A7 rfl rfl rfl rfl (by (conv=>lhs;whnf);try rfl) ?_ | refine AA rfl rfl ?_ | refine Zf ?_ | refine Zl ?_ | refine Zb ?_ | refine ZH ?_)
 rw [show decide ((0:Int)<((init.length+1:Nat):Int))=true from Yh (by omega)]
 repeat (first | (refine Zv rfl rfl ?_) | (refine EV rfl rfl rfl (by omega) ?_) | (refine ES (n:=init.length) rfl rfl rfl rfl (by simp) ?_) | (refine Q6 rfl rfl rfl (D0 _ _) rfl ?_) | (refine VG rfl hy rfl rfl ?_) | (refine I1 rfl rfl rfl (D0 _ _) rfl rfl rfl rfl (Yk rfl) rfl (EG _ _ _) ?_) | refine Zr rfl (by (conv=>lhs;whnf);try rfl) ?_ | refine ZJ rfl rfl rfl ?_ | refine Zm rfl rfl ?_ | refine A7 rfl rfl rfl rfl (by (conv=>lhs;whnf);try rfl) ?_ | refine AA rfl rfl ?_ | refine B5 rfl rfl (by (conv=>lhs;whnf);try rfl) ?_ | refine Zf ?_ | refine Zl ?_ | refine Zb ?_ | refine CI ?_)
 exact FU (.inl rfl) (0,0) (0,1000) νa νa [_] [] rfl rfl trivial rfl rfl (Zp rfl (Zp rfl (Zp rfl (Zp rfl (AO _))))) rfl rfl
·obtain ⟨h1,h2,rfl⟩:=GS hR
 dsimp only at hl
 subst hl
 rw [GE] at h63
 repeat (first | (refine Zk rfl rfl ?_) | (refine C9 [] νa (CE _ r hs.1) rfl rfl rfl rfl rfl rfl ?_) | (refine I0 [] νa (M4 _ h hs.2) rfl rfl rfl rfl rfl ?_) | (refine CO rfl rfl (GE _ _) ?_) | refine Zr rfl (by (conv=>lhs;whnf);try rfl) ?_ | refine ZJ rfl rfl rfl ?_ | refine Zs rfl (by (conv=>lhs;whnf);try rfl) ?_ | refine A7 rfl rfl rfl rfl (by (conv=>lhs;whnf);try rfl) ?_ | refine AA rfl rfl ?_ | refine Zf ?_ | refine Zl ?_ | refine Zb ?_ | refine ZH ?_)
 rw [show decide ((0:Int)<((init.length+1:Nat):Int))=true from Yh (by omega)]
 repeat (first | (refine EV rfl rfl rfl (by omega) ?_) | (refine ES (n:=init.length) rfl rfl rfl rfl (by simp) ?_) | (refine Q6 rfl rfl rfl (D0 _ _) rfl ?_) | refine Zr rfl (by (conv=>lhs;whnf);try rfl) ?_ | refine ZJ rfl rfl rfl ?_ | refine Zm rfl rfl ?_ | refine A7 rfl rfl rfl rfl (by (conv=>lhs;whnf);try rfl) ?_ | refine AA rfl rfl ?_ | refine B5 rfl rfl (by (conv=>lhs;whnf);try rfl) ?_ | refine Zf ?_)
 rw [Yf hk]
 repeat (first | (refine Zk rfl rfl ?_) | (refine JA rfl rfl rfl rfl h1 h2 (by rfl) ?_) | (refine ES (n:=List.length (init ++ [Node.cs n])) rfl rfl rfl rfl (by simp) ?_) | (refine I1 rfl rfl rfl (D0 _ _) rfl rfl rfl rfl (Yk rfl) rfl (EG _ _ _) ?_) | refine Zr rfl (by (conv=>lhs;whnf);try rfl) ?_ | refine ZJ rfl rfl rfl ?_ | refine AA rfl rfl ?_ | refine G5 rfl rfl ?_ | refine BS rfl rfl rfl (by (conv=>lhs;whnf);try rfl) (by (conv=>lhs;whnf);try rfl) (by rfl) (by rfl) (Yk rfl) (by (conv=>lhs;whnf);try rfl) ?_ | refine D4 rfl rfl ?_ | refine E9 rfl rfl rfl (by rfl) (by decide) (by (conv=>lhs;whnf);try rfl) ?_ | refine EU (by kernel_rfl) ?_ | refine Zb ?_ | refine ZH ?_ | refine ZE ?_)
 exact FU (.inr rfl) (0,0) (0,1000) (fun k=>if k=1002 then (5,7) else νa k) νa [_,_,_,_] [] rfl rfl trivial rfl rfl (Zp rfl (Zp rfl (Zp rfl (Zp rfl (AO _))))) rfl rfl}
theorem Zvq (tag count:Int) (list:Q3 (Q3 PV)) (pre:Q3 Arg) (a:Arg) (r:Q3 El) (s:Q1) (h0:s≠⟨#[]⟩) (hs:small ⟨3,tag,count,list,some (pre,a)⟩ r) (l':Q3 (Q3 PV)) (h63:a.value.length<=9223372036854775807) (hR:GY a.value s=some l') :
  PC 102 [.str s] ⟨3,tag,count,list,some (pre,a)⟩ r (.tup []) ⟨3,tag,count,list,some (pre,⟨a.named,a.name,l'⟩)⟩ r:=by{
refine ZG mix Tryz.func102 (by kernel_rfl) rfl (by kernel_rfl) ?_
rw [CV]
obtain ⟨named,name,value⟩:=a
dsimp only at h63 hR ⊢
repeat (first | refine Zr rfl (by (conv=>lhs;whnf);try rfl) ?_ | refine HA rfl rfl rfl rfl (by (conv=>lhs;whnf);try rfl) ?_ | refine Zf ?_ | refine Zl ?_ | refine Zb ?_)
rw [Yf h0]
rcases WV hR with ⟨hl,hR⟩ | ⟨init,n,hl,⟨hk,y,hy,rfl⟩ | ⟨hk,hR⟩⟩
·obtain ⟨h1,h2,rfl⟩:=GS hR
 subst hl
 repeat (first | (refine Zk rfl rfl ?_) | (refine C9 [] νa (CE _ r hs.1) rfl rfl rfl rfl rfl rfl ?_) | (refine I0 [] νa (WU _ _ _ _ _ (hs.2 _ rfl)) rfl rfl rfl rfl rfl ?_) | (refine NE rfl rfl ?_) | (refine G9 rfl rfl rfl (EH _ _ _ _) rfl ?_) | (refine JA rfl rfl rfl rfl h1 h2 (by rfl) ?_) | (refine ES (n:=List.length ([]:Q3 (Q3 PV))) rfl rfl rfl rfl (by simp) ?_) | (refine I1 rfl rfl rfl (D0 _ _) rfl rfl rfl rfl (Yk rfl) rfl (EG _ _ _) ?_) | (refine VN rfl rfl rfl (EH _ _ _ _) rfl rfl rfl rfl (Yk rfl) (Q7 _ _ _ _ _) ?_) | (refine Zw rfl ?_) | refine Zr rfl (by (conv=>lhs;whnf);try rfl) ?_ | refine Zs rfl (by (conv=>lhs;whnf);try rfl) ?_ | refine A7 rfl rfl rfl rfl (by (conv=>lhs;whnf);try rfl) ?_ | refine G5 rfl rfl ?_ | refine D4 rfl rfl ?_ | refine E9 rfl rfl rfl (by rfl) (by decide) (by (conv=>lhs;whnf);try rfl) ?_ | refine B5 rfl rfl (by (conv=>lhs;whnf);try rfl) ?_ | refine Zf ?_ | refine EU (by kernel_rfl) ?_ | refine Zl ?_ | refine Zb ?_ | refine ZH ?_ | refine ZE ?_)
 exact FU (.inr rfl) (0,0) (0,1000) (fun k=>if k=1004 then (5,7) else νa k) νa [_,_,_,_] [] rfl rfl trivial rfl rfl (Zp rfl (Zp rfl (Zp rfl (Zp rfl (AO _))))) rfl rfl
·skip
 subst hl
 rw [GE] at h63
 obtain ⟨k0,t0,s0,ks,ag⟩:=n
 dsimp only at hk hy
 subst hk
 repeat (first | (refine Zk rfl rfl ?_) | (refine C9 [] νa (CE _ r hs.1) rfl rfl rfl rfl rfl rfl ?_) | (refine I0 [] νa (WU _ _ _ _ _ (hs.2 _ rfl)) rfl rfl rfl rfl rfl ?_) | (refine NE rfl rfl ?_) | (refine G9 rfl rfl rfl (EH _ _ _ _) rfl ?_) | (refine CO rfl rfl (GE _ _) ?_) | refine Zr rfl (by (conv=>lhs;whnf);try rfl) ?_ | refine Zs rfl (by (conv=>lhs;whnf);try rfl) ?_ | refine A7 rfl rfl rfl rfl (by (conv=>lhs;whnf);try rfl) ?_ | refine Zf ?_ | refine Zl ?_ | refine Zb ?_ | refine ZH ?_)
 rw [show decide ((0:Int)<((init.length+1:Nat):Int))=true from Yh (by omega)]
 repeat (first | (refine NE rfl rfl ?_) | (refine G9 rfl rfl rfl (EH _ _ _ _) rfl ?_) | (refine Zv rfl rfl ?_) | (refine EV rfl rfl rfl (by omega) ?_) | (refine ES (n:=init.length) rfl rfl rfl rfl (by simp) ?_) | (refine Q6 rfl rfl rfl (D0 _ _) rfl ?_) | (refine VG rfl hy rfl rfl ?_) | (refine I1 rfl rfl rfl (D0 _ _) rfl rfl rfl rfl (Yk rfl) rfl (EG _ _ _) ?_) | refine Zr rfl (by (conv=>lhs;whnf);try rfl) ?_ | refine Zm rfl rfl ?_ | refine A7 rfl rfl rfl rfl (by (conv=>lhs;whnf);try rfl) ?_ | refine B5 rfl rfl (by (conv=>lhs;whnf);try rfl) ?_ | refine Zf ?_ | refine Zl ?_ | refine Zb ?_ | refine CI ?_)
 exact FU (.inl rfl) (0,0) (0,1000) νa νa [_] [] rfl rfl trivial rfl rfl (Zp rfl (Zp rfl (Zp rfl (Zp rfl (AO _))))) rfl rfl
·obtain ⟨h1,h2,rfl⟩:=GS hR
 subst hl
 rw [GE] at h63
 repeat (first | (refine Zk rfl rfl ?_) | (refine C9 [] νa (CE _ r hs.1) rfl rfl rfl rfl rfl rfl ?_) | (refine I0 [] νa (WU _ _ _ _ _ (hs.2 _ rfl)) rfl rfl rfl rfl rfl ?_) | (refine NE rfl rfl ?_) | (refine G9 rfl rfl rfl (EH _ _ _ _) rfl ?_) | (refine CO rfl rfl (GE _ _) ?_) | refine Zr rfl (by (conv=>lhs;whnf);try rfl) ?_ | refine Zs rfl (by (conv=>lhs;whnf);try rfl) ?_ | refine A7 rfl rfl rfl rfl (by (conv=>lhs;whnf);try rfl) ?_ | refine Zf ?_ | refine Zl ?_ | refine Zb ?_ | refine ZH ?_)
 rw [show decide ((0:Int)<((init.length+1:Nat):Int))=true from Yh (by omega)]
 repeat (first | (refine NE rfl rfl ?_) | (refine G9 rfl rfl rfl (EH _ _ _ _) rfl ?_) | (refine EV rfl rfl rfl (by omega) ?_) | (refine ES (n:=init.length) rfl rfl rfl rfl (by simp) ?_) | (refine Q6 rfl rfl rfl (D0 _ _) rfl ?_) | refine Zr rfl (by (conv=>lhs;whnf);try rfl) ?_ | refine Zm rfl rfl ?_ | refine A7 rfl rfl rfl rfl (by (conv=>lhs;whnf);try rfl) ?_ | refine B5 rfl rfl (by (conv=>lhs;whnf);try rfl) ?_ | refine Zf ?_)
 rw [Yf hk]
 repeat (first | (refine Zk rfl rfl ?_) | (refine NE rfl rfl ?_) | (refine G9 rfl rfl rfl (EH _ _ _ _) rfl ?_) | (refine JA rfl rfl rfl rfl h1 h2 (by rfl) ?_) | (refine ES (n:=List.length (init ++ [Node.cs n])) rfl rfl rfl rfl (by simp) ?_) | (refine I1 rfl rfl rfl (D0 _ _) rfl rfl rfl rfl (Yk rfl) rfl (EG _ _ _) ?_) | (refine VN rfl rfl rfl (EH _ _ _ _) rfl rfl rfl rfl (Yk rfl) (Q7 _ _ _ _ _) ?_) | refine Zr rfl (by (conv=>lhs;whnf);try rfl) ?_ | refine G5 rfl rfl ?_ | refine D4 rfl rfl ?_ | refine E9 rfl rfl rfl (by rfl) (by decide) (by (conv=>lhs;whnf);try rfl) ?_ | refine EU (by kernel_rfl) ?_ | refine Zb ?_ | refine ZH ?_ | refine ZE ?_)
 exact FU (.inr rfl) (0,0) (0,1000) (fun k=>if k=1004 then (5,7) else νa k) νa [_,_,_,_] [] rfl rfl trivial rfl rfl (Zp rfl (Zp rfl (Zp rfl (Zp rfl (AO _))))) rfl rfl}
theorem CP (e:El) (r:Q3 El) (s:Q1) (hs:small e r) (h63:e.cur.length<=9223372036854775807) (e':El) (h:AK e s=some e'):PC 102 [.str s] e r (.tup []) e' r:=by{
unfold AK at h
split at h
rename_i h0
injection h with h
subst h0 h
exact ZsV e r
rename_i h0
obtain ⟨l',hR,rfl⟩:=Ye.1 h
obtain ⟨kind,tag,count,list,args⟩:=e
rcases args with _ | ⟨pre,a⟩
exact Zrv _ r s h0 hs l' rfl h63 hR
by_cases hk:kind=3
subst hk
exact Zvq tag count list pre a r s h0 hs l' h63 hR
have e1:VL.El.cur ⟨kind,tag,count,list,some (pre,a)⟩=list:=if_neg hk
have e2:VL.El.setCur ⟨kind,tag,count,list,some (pre,a)⟩ l'=⟨kind,tag,count,l',some (pre,a)⟩:=if_neg hk
rw [e1] at hR h63
rw [e2]
exact Zrw ⟨kind,tag,count,list,some (pre,a)⟩ r s h0 hs l' (.inl hk) (by intro h;cases h) h63 hR}
theorem KJ (e:El) (r:Q3 El) (n:Node) (hs:small e r) (e':El) (h:EI e n=some e'):PC 103 [.agg n.cs] e r (.tup []) e' r:=by{
obtain ⟨l',hR,rfl⟩:=Ye.1 h
obtain ⟨kind,tag,count,list,args⟩:=e
rcases args with _ | ⟨pre,a⟩
exact n8 _ r n hs l' (.inr rfl) hR
by_cases hk:kind=3
subst hk
exact ZvZ tag count list pre a r n hs l' hR
have e1:VL.El.cur ⟨kind,tag,count,list,some (pre,a)⟩=list:=if_neg hk
have e2:VL.El.setCur ⟨kind,tag,count,list,some (pre,a)⟩ l'=⟨kind,tag,count,l',some (pre,a)⟩:=if_neg hk
rw [e1] at hR
rw [e2]
exact n8 ⟨kind,tag,count,list,some (pre,a)⟩ r n hs l' (.inl hk) hR}
theorem Q8 (e e2:El) (r:Q3 El) (hr:r.length<=999):ContractG Tryz.prog 111 [.ptr 0 (0,0) 0] (objs (stP νa e (e2::r))) (.ptr 1001 (0,1001) 0) (F7 78 111 98 νa (1,1000) e e2 r):=by{
refine ZG mix Tryz.func111 (by kernel_rfl) rfl (by kernel_rfl) ?_
rw [CV]
repeat (first | (refine C9 [] νa (CE e (e2::r) (by simp;omega)) rfl rfl rfl rfl rfl rfl ?_) | (refine CO rfl rfl (EF _ _ _) ?_) | (refine EV rfl rfl rfl (by simp;omega) ?_) | (refine wR rfl rfl rfl rfl (by rw [EF];omega) (Zwq _ _ _) ?_) | refine Zr rfl (by (conv=>lhs;whnf);try rfl) ?_ | refine ZJ rfl rfl rfl ?_ | refine Zm rfl rfl ?_ | refine Zs rfl (by (conv=>lhs;whnf);try rfl) ?_ | refine AA rfl rfl ?_ | refine BS rfl rfl rfl (by (conv=>lhs;whnf);try rfl) (by (conv=>lhs;whnf);try rfl) (by rfl) (by rfl) (Yk rfl) (by (conv=>lhs;whnf);try rfl) ?_ | refine Zf ?_ | refine EU (by kernel_rfl) ?_ | refine Zl ?_ | refine Zb ?_ | refine CI ?_)
exact Zwr (3,11) [_,_] [(2,.ptr 1001 (0,1001) 0)] rfl rfl ⟨rfl,trivial⟩ rfl rfl rfl rfl}
abbrev Q9 (k t c:Int):Q3 (Nat×VObj):=[(1,.box [.int .i64 k,.int .i64 t,.int .i64 c,.nil,.nil])]
theorem Ztd (e e':El) (r:Q3 El) (k t c:Int) (s:Q1) (hr:20<=r.length) (hs:small e r) (h63:e.cur.length<=9223372036854775807) (h:AK e s=some e') :
  ContractG Tryz.prog 104 [.ptr 0 (0,0) 0,.ptr 1 (0,1) 0,.str s] (objs (stP νa e r)++Q9 k t c) (.tup []) (stP νb e' r):=by{
refine ZG mix Tryz.func104 (by kernel_rfl) rfl (by kernel_rfl) ?_
rw [mP,CV,mX rfl]
repeat (first | (refine CO rfl rfl (EF _ _ _) ?_) | refine Zr rfl (by (conv=>lhs;whnf);try rfl) ?_ | refine ZJ rfl rfl rfl ?_ | refine Zm rfl rfl ?_ | refine A7 rfl rfl rfl rfl (by (conv=>lhs;whnf);try rfl) ?_ | refine AA rfl rfl ?_ | refine Zf ?_ | refine Zl ?_ | refine Zb ?_)
rw [show decide ((20:Int)<((r.length+1:Nat):Int))=true from Yh (by omega)]
repeat (first | (refine Zv rfl rfl ?_) | (refine ZC [_] νa (CP e r s hs h63 e' h) rfl rfl rfl rfl rfl rfl ?_) | refine Zr rfl (by (conv=>lhs;whnf);try rfl) ?_ | refine Zf ?_ | refine Zl ?_ | refine Zb ?_ | refine CI ?_)
exact BX (.inl rfl) (νc 2 2) [_] [] rfl rfl trivial rfl rfl}
theorem Zte (e:El) (r:Q3 El) (k t c:Int) (s:Q1) (hr:r.length<20) :
  ContractG Tryz.prog 104 [.ptr 0 (0,0) 0,.ptr 1 (0,1) 0,.str s] (objs (stP νa e r)++Q9 k t c) (.tup []) (stP νb ⟨k,t,c,[],none⟩ (e::r)):=by{
refine ZG mix Tryz.func104 (by kernel_rfl) rfl (by kernel_rfl) ?_
rw [mP,CV,mX rfl]
repeat (first | (refine CO rfl rfl (EF _ _ _) ?_) | refine Zr rfl (by (conv=>lhs;whnf);try rfl) ?_ | refine ZJ rfl rfl rfl ?_ | refine Zm rfl rfl ?_ | refine A7 rfl rfl rfl rfl (by (conv=>lhs;whnf);try rfl) ?_ | refine AA rfl rfl ?_ | refine Zf ?_ | refine Zl ?_ | refine Zb ?_)
rw [show decide ((20:Int)<((r.length+1:Nat):Int))=false from Yf (by omega)]
repeat (first | (refine Zk rfl rfl ?_) | (refine VO rfl rfl rfl rfl (Yk rfl) rfl ?_) | (refine bV (new:=[[.ptr 1 (0,1) 0]]) rfl rfl rfl rfl (by rw [EF];simp;omega) (by rw [EF];simp;omega) (by simp) ?_) | refine Zr rfl (by (conv=>lhs;whnf);try rfl) ?_ | refine ZJ rfl rfl rfl ?_ | refine Zm rfl rfl ?_ | refine AA rfl rfl ?_ | refine BS rfl rfl rfl (by (conv=>lhs;whnf);try rfl) (by (conv=>lhs;whnf);try rfl) (by rfl) (by rfl) (Yk rfl) (by (conv=>lhs;whnf);try rfl) ?_ | refine Zf ?_ | refine Zb ?_ | refine ZH ?_ | refine ZE ?_)
exact KI (HH 1 5 3 78 5 rfl rfl rfl) (KI (HH 1 6 4 111 3 rfl rfl rfl) (KI (LI (t:=6) rfl) (Zuu (.inr rfl) (0,0) (2,7) (0,1) (3,0) (4,0) 1 5 6 νa [_,_,_,_,_,_,_,_,_] [] rfl rfl trivial rfl rfl rfl rfl rfl rfl rfl rfl)))}
def KK (e:El):Q2 El:=match e.args with | some (pre,a)=>if e.kind=3/\a.named=false then some ⟨e.kind,e.tag,e.count,e.list,some (pre,⟨true,a.value,[]⟩)⟩ else AK e ⟨#[61]⟩ | none=>AK e ⟨#[61]⟩
theorem Zvh (e e':El) (r:Q3 El) (hs:small e r) (h63:e.cur.length<=9223372036854775807) (hk:e.kind≠3) (h:AK e ⟨#[124]⟩=some e'):PC 106 [] e r (.tup []) e' r:=by{
refine ZG mix Tryz.func106 (by kernel_rfl) rfl (by kernel_rfl) ?_
rw [CV]
repeat (first | (refine C9 [] νa (CE e r hs.1) rfl rfl rfl rfl rfl rfl ?_) | refine Zr rfl (by (conv=>lhs;whnf);try rfl) ?_ | refine ZJ rfl rfl rfl ?_ | refine Zm rfl rfl ?_ | refine Zs rfl (by (conv=>lhs;whnf);try rfl) ?_ | refine A7 rfl rfl rfl rfl (by (conv=>lhs;whnf);try rfl) ?_ | refine AA rfl rfl ?_ | refine Zf ?_ | refine Zl ?_ | refine Zb ?_)
rw [Yf hk]
repeat (first | (refine Zk rfl rfl ?_) | (refine ZC [] νa (CP e r _ hs h63 e' h) rfl rfl rfl rfl rfl rfl ?_) | refine Zr rfl (by (conv=>lhs;whnf);try rfl) ?_ | refine Zf ?_ | refine Zb ?_ | refine ZH ?_ | refine ZE ?_)
exact BX (.inr rfl) (νc 3 1) [] [] rfl rfl trivial rfl rfl}
theorem Zvi (tag count:Int) (list:Q3 (Q3 PV)) (r:Q3 El) (hr:r.length<=1000):PC 106 [] ⟨3,tag,count,list,none⟩ r (.tup []) ⟨3,tag,count,list,some ([],⟨false,[],[]⟩)⟩ r:=by{
refine ZG mix Tryz.func106 (by kernel_rfl) rfl (by kernel_rfl) ?_
rw [CV]
repeat (first | (refine C9 [] νa (CE _ r hr) rfl rfl rfl rfl rfl rfl ?_) | (refine Zv rfl rfl ?_) | (refine VO rfl rfl rfl rfl (Yk rfl) rfl ?_) | (refine bV (els:=[]) (new:=[[.bool false,.nil,.nil]]) rfl rfl rfl rfl (by simp) (by simp) (by simp) ?_) | refine Zr rfl (by (conv=>lhs;whnf);try rfl) ?_ | refine ZJ rfl rfl rfl ?_ | refine Zm rfl rfl ?_ | refine Zs rfl (by (conv=>lhs;whnf);try rfl) ?_ | refine A7 rfl rfl rfl rfl (by (conv=>lhs;whnf);try rfl) ?_ | refine AA rfl rfl ?_ | refine BS rfl rfl rfl (by (conv=>lhs;whnf);try rfl) (by (conv=>lhs;whnf);try rfl) (by rfl) (by rfl) (Yk rfl) (by (conv=>lhs;whnf);try rfl) ?_ | refine D4 rfl rfl ?_ | refine Zf ?_ | refine Zl ?_ | refine Zb ?_ | refine CI ?_)
exact KI (KH 1003 0 1 rfl rfl rfl rfl rfl) (KI (dQ 1003 1004 0 2 78 5 rfl rfl rfl rfl rfl) (FU (.inl rfl) (0,0) (0,1000) (fun k=>if k=1003 then (3,7) else if k=1004 then (4,0) else νa k) νa [_,_,_,_,_,_] [] rfl rfl trivial rfl rfl (Zp rfl (Zp rfl (Zp rfl (Zp rfl (AO _))))) rfl rfl))}
theorem n9 (pre:Q3 Arg) (a:Arg):(pre.map Arg.cs ++ [a.cs]).length=pre.length+1:=by simp
theorem nA (pre:Q3 Arg) (a:Arg) (x:Q3 PV):(pre.map Arg.cs ++ [a.cs] ++ [x])[pre.length+1]? = some x:=by
 have:=D0 (pre.map Arg.cs ++ [a.cs]) x
 rwa [n9] at this
theorem nB (pre:Q3 Arg) (a:Arg) (x y:Q3 PV):(pre.map Arg.cs ++ [a.cs] ++ [x]).set (pre.length+1) y=pre.map Arg.cs ++ [a.cs] ++ [y]:=by
 have:=EG (pre.map Arg.cs ++ [a.cs]) x y
 rwa [n9] at this
theorem nC (pre:Q3 Arg) (x:Q3 PV):(pre.map Arg.cs ++ [x])[pre.length]? = some x:=by
 have:=D0 (pre.map Arg.cs) x
 rwa [Yv] at this
theorem nD (pre:Q3 Arg) (x y:Q3 PV):(pre.map Arg.cs ++ [x]).set pre.length y=pre.map Arg.cs ++ [y]:=by
 have:=EG (pre.map Arg.cs) x y
 rwa [Yv] at this
theorem Zvj (pre:Q3 Arg) (a:Arg) (x y:Q3 PV):(pre.map Arg.cs ++ [a.cs] ++ [x]).set (pre.length+1) y=(pre ++ [a]).map Arg.cs ++ [y]:=by
 rw [nB]
 simp
theorem Zvk (tag count:Int) (list:Q3 (Q3 PV)) (pre:Q3 Arg) (a:Arg) (r:Q3 El) (hs:small ⟨3,tag,count,list,some (pre,a)⟩ r):PC 106 [] ⟨3,tag,count,list,some (pre,a)⟩ r (.tup []) ⟨3,tag,count,list,some (pre ++ [a],⟨false,[],[]⟩)⟩ r:=by{
have hp:pre.length<=1000000:=hs.2 _ rfl
refine ZG mix Tryz.func106 (by kernel_rfl) rfl (by kernel_rfl) ?_
rw [CV]
repeat (first | (refine C9 [] νa (CE _ r hs.1) rfl rfl rfl rfl rfl rfl ?_) | refine Zr rfl (by (conv=>lhs;whnf);try rfl) ?_ | refine ZJ rfl rfl rfl ?_ | refine Zm rfl rfl ?_ | refine Zs rfl (by (conv=>lhs;whnf);try rfl) ?_ | refine A7 rfl rfl rfl rfl (by (conv=>lhs;whnf);try rfl) ?_ | refine AA rfl rfl ?_ | refine Zf ?_ | refine Zl ?_ | refine Zb ?_)
refine Zv rfl rfl ?_
refine CX (KH 1003 pre.length 2 rfl (EH _ _ _ _) rfl rfl (Q7 _ _ _ _ _)) ?_ (D3 _ _)
repeat (first | (refine VO rfl rfl rfl rfl (Yk rfl) rfl ?_) | (refine bV (els:=pre.map Arg.cs ++ [a.cs]) (new:=[[.bool false,.nil,.nil]]) rfl rfl rfl rfl (by simp;omega) (by simp;omega) (by simp) ?_) | refine Zr rfl (by (conv=>lhs;whnf);try rfl) ?_ | refine ZJ rfl rfl rfl ?_ | refine Zm rfl rfl ?_ | refine AA rfl rfl ?_ | refine BS rfl rfl rfl (by (conv=>lhs;whnf);try rfl) (by (conv=>lhs;whnf);try rfl) (by rfl) (by rfl) (Yk rfl) (by (conv=>lhs;whnf);try rfl) ?_ | refine D4 rfl rfl ?_ | refine Zf ?_ | refine Zl ?_ | refine Zb ?_ | refine CI ?_)
exact KI (KH 1003 (pre.length+1) 1 rfl (nA _ _ _) rfl rfl (nB _ _ _ _)) (KI (dQ 1003 1004 (pre.length+1) 2 78 5 rfl rfl (nA _ _ _) rfl (Zvj _ _ _ _)) (FU (.inl rfl) (0,0) (0,1000) (fun k=>if k=1003 then (3,7) else if k=1004 then (4,0) else νa k) νa [_,_,_,_,_,_,_,_] [] rfl rfl trivial rfl rfl (Zp rfl (Zp rfl (Zp rfl (Zp rfl (AO _))))) rfl rfl))}
theorem nE (e e':El) (r:Q3 El) (hs:small e r) (h63:e.cur.length<=9223372036854775807) (hc:e.kind≠3\/e.args=none\/∃ pre a,e.args=some (pre,a)/\a.named=true) (h:AK e ⟨#[61]⟩=some e'):PC 107 [] e r (.tup []) e' r:=by{
refine ZG mix Tryz.func107 (by kernel_rfl) rfl (by kernel_rfl) ?_
rw [CV]
obtain ⟨kind,tag,count,list,args⟩:=e
rcases args with _ | ⟨pre,a⟩
by_cases hk:kind=3
·subst hk
 repeat (first | (refine C9 [] νa (CE _ r hs.1) rfl rfl rfl rfl rfl rfl ?_) | (refine CO (n:=0) rfl rfl rfl ?_) | (refine Zw rfl ?_) | (refine Zk rfl rfl ?_) | (refine ZC [] νa (CP _ r _ hs h63 e' h) rfl rfl rfl rfl rfl rfl ?_) | refine Zr rfl (by (conv=>lhs;whnf);try rfl) ?_ | refine ZJ rfl rfl rfl ?_ | refine Zm rfl rfl ?_ | refine Zs rfl (by (conv=>lhs;whnf);try rfl) ?_ | refine A7 rfl rfl rfl rfl (by (conv=>lhs;whnf);try rfl) ?_ | refine AA rfl rfl ?_ | refine B5 rfl rfl (by (conv=>lhs;whnf);try rfl) ?_ | refine Zf ?_ | refine Zl ?_ | refine Zb ?_ | refine ZH ?_ | refine ZE ?_)
 exact BX (.inr rfl) (νc 4 1) [] [] rfl rfl trivial rfl rfl
·repeat (first | (refine C9 [] νa (CE _ r hs.1) rfl rfl rfl rfl rfl rfl ?_) | (refine CO (n:=0) rfl rfl rfl ?_) | refine Zr rfl (by (conv=>lhs;whnf);try rfl) ?_ | refine ZJ rfl rfl rfl ?_ | refine Zm rfl rfl ?_ | refine Zs rfl (by (conv=>lhs;whnf);try rfl) ?_ | refine A7 rfl rfl rfl rfl (by (conv=>lhs;whnf);try rfl) ?_ | refine AA rfl rfl ?_ | refine Zf ?_ | refine Zl ?_ | refine Zb ?_)
 rw [Yf hk]
 repeat (first | (refine Zw rfl ?_) | (refine Zk rfl rfl ?_) | (refine ZC [] νa (CP _ r _ hs h63 e' h) rfl rfl rfl rfl rfl rfl ?_) | refine Zr rfl (by (conv=>lhs;whnf);try rfl) ?_ | refine B5 rfl rfl (by (conv=>lhs;whnf);try rfl) ?_ | refine Zf ?_ | refine Zb ?_ | refine ZH ?_ | refine ZE ?_)
 exact BX (.inr rfl) (νc 4 1) [] [] rfl rfl trivial rfl rfl
have hp:pre.length<=1000000:=hs.2 _ rfl
by_cases hk:kind=3
·obtain ⟨named,name,value⟩:=a
 obtain rfl:named=true:=by
  rcases hc with hc | hc | ⟨pre',a',h1,h2⟩
  exact absurd hk hc
  cases hc
  injection h1 with h1
  injection h1 with _ h1
  rw [<- h1] at h2
  exact h2
 subst hk
 repeat (first | (refine C9 [] νa (CE _ r hs.1) rfl rfl rfl rfl rfl rfl ?_) | (refine CO rfl rfl (M3 ..) ?_) | refine Zr rfl (by (conv=>lhs;whnf);try rfl) ?_ | refine ZJ rfl rfl rfl ?_ | refine Zm rfl rfl ?_ | refine Zs rfl (by (conv=>lhs;whnf);try rfl) ?_ | refine A7 rfl rfl rfl rfl (by (conv=>lhs;whnf);try rfl) ?_ | refine AA rfl rfl ?_ | refine B5 rfl rfl (by (conv=>lhs;whnf);try rfl) ?_ | refine Zf ?_ | refine Zl ?_ | refine Zb ?_)
 rw [show decide ((0:Int)<((pre.length+1:Nat):Int))=true from Yh (by omega)]
 repeat (first | (refine EV rfl rfl rfl (by omega) ?_) | (refine LJ rfl rfl rfl rfl (by rw [M3];omega) ?_) | (refine G9 rfl rfl rfl (EH _ _ _ _) rfl ?_) | (refine Zk rfl rfl ?_) | (refine ZC [] νa (CP _ r _ hs h63 e' h) rfl rfl rfl rfl rfl rfl ?_) | refine Zr rfl (by (conv=>lhs;whnf);try rfl) ?_ | refine ZJ rfl rfl rfl ?_ | refine Zm rfl rfl ?_ | refine AA rfl rfl ?_ | refine V8 rfl rfl ?_ | refine B5 rfl rfl (by (conv=>lhs;whnf);try rfl) ?_ | refine Zf ?_ | refine Zb ?_ | refine ZH ?_ | refine ZE ?_)
 exact BX (.inr rfl) (νc 4 1) [] [] rfl rfl trivial rfl rfl
·repeat (first | (refine C9 [] νa (CE _ r hs.1) rfl rfl rfl rfl rfl rfl ?_) | (refine CO rfl rfl (M3 ..) ?_) | refine Zr rfl (by (conv=>lhs;whnf);try rfl) ?_ | refine ZJ rfl rfl rfl ?_ | refine Zm rfl rfl ?_ | refine Zs rfl (by (conv=>lhs;whnf);try rfl) ?_ | refine A7 rfl rfl rfl rfl (by (conv=>lhs;whnf);try rfl) ?_ | refine AA rfl rfl ?_ | refine Zf ?_ | refine Zl ?_ | refine Zb ?_)
 rw [Yf hk]
 repeat (first | (refine Zw rfl ?_) | (refine Zk rfl rfl ?_) | (refine ZC [] νa (CP _ r _ hs h63 e' h) rfl rfl rfl rfl rfl rfl ?_) | refine Zr rfl (by (conv=>lhs;whnf);try rfl) ?_ | refine B5 rfl rfl (by (conv=>lhs;whnf);try rfl) ?_ | refine Zf ?_ | refine Zb ?_ | refine ZH ?_ | refine ZE ?_)
 exact BX (.inr rfl) (νc 4 1) [] [] rfl rfl trivial rfl rfl}
theorem ZsH (tag count:Int) (list:Q3 (Q3 PV)) (pre:Q3 Arg) (name value:Q3 (Q3 PV)) (r:Q3 El) (hs:small ⟨3,tag,count,list,some (pre,⟨false,name,value⟩)⟩ r):PC 107 [] ⟨3,tag,count,list,some (pre,⟨false,name,value⟩)⟩ r (.tup []) ⟨3,tag,count,list,some (pre,⟨true,value,[]⟩)⟩ r:=by{
have hp:pre.length<=1000000:=hs.2 _ rfl
refine ZG mix Tryz.func107 (by kernel_rfl) rfl (by kernel_rfl) ?_
rw [CV]
repeat (first | (refine C9 [] νa (CE _ r hs.1) rfl rfl rfl rfl rfl rfl ?_) | (refine CO rfl rfl (M3 ..) ?_) | refine Zr rfl (by (conv=>lhs;whnf);try rfl) ?_ | refine ZJ rfl rfl rfl ?_ | refine Zm rfl rfl ?_ | refine Zs rfl (by (conv=>lhs;whnf);try rfl) ?_ | refine A7 rfl rfl rfl rfl (by (conv=>lhs;whnf);try rfl) ?_ | refine AA rfl rfl ?_ | refine B5 rfl rfl (by (conv=>lhs;whnf);try rfl) ?_ | refine Zf ?_ | refine Zl ?_ | refine Zb ?_)
rw [show decide ((0:Int)<((pre.length+1:Nat):Int))=true from Yh (by omega)]
repeat (first | (refine EV rfl rfl rfl (by omega) ?_) | (refine LJ rfl rfl rfl rfl (by rw [M3];omega) ?_) | (refine G9 rfl rfl rfl (EH _ _ _ _) rfl ?_) | (refine Zv rfl rfl ?_) | (refine VN rfl rfl rfl (EH _ _ _ _) rfl rfl rfl rfl (Yk rfl) (Q7 _ _ _ _ _) ?_) | refine Zr rfl (by (conv=>lhs;whnf);try rfl) ?_ | refine ZJ rfl rfl rfl ?_ | refine Zm rfl rfl ?_ | refine AA rfl rfl ?_ | refine D4 rfl rfl ?_ | refine V8 rfl rfl ?_ | refine B5 rfl rfl (by (conv=>lhs;whnf);try rfl) ?_ | refine Zf ?_ | refine EU (by kernel_rfl) ?_ | refine Zl ?_ | refine Zb ?_ | refine CI ?_)
exact KI (KH 1003 pre.length 1 rfl (nC _ _) rfl rfl (nD _ _ _)) (KI (dQ 1003 1004 pre.length 2 78 5 rfl rfl (nC _ _) rfl (nD _ _ _)) (FU (.inl rfl) (0,0) (0,1000) (fun k=>if k=1004 then (5,0) else νa k) νa [_,_,_,_,_] [] rfl rfl trivial rfl rfl (Zp rfl (Zp rfl (Zp rfl (Zp rfl (AO _))))) rfl rfl))}
def FV:El->Q3 (Q3 PV)->Q2 El | e,[]=>some e | e,x::l=>(NF x).bind fun n=>(if n.kind=1 then AK e n.text else EI e n).bind fun e'=>FV e' l
def fit (e:El) (r:Q3 El):Prop:=small e r/\e.cur.length<=9223372036854775807
theorem nF {e:El} {r:Q3 El} {l:Q3 (Q3 PV)} (h:small e r):small (e.setCur l) r:=by{
obtain ⟨kind,tag,count,list,args⟩:=e
refine ⟨h.1,fun q hq=>?_⟩
rcases args with _ | ⟨pre,a⟩
cases hq
by_cases hk:kind=3
have e1:VL.El.setCur ⟨kind,tag,count,list,some (pre,a)⟩ l=⟨kind,tag,count,list,some (pre,⟨a.named,a.name,l⟩)⟩:=if_pos hk
rw [e1] at hq
injection hq with hq
rw [<- hq]
exact h.2 (pre,a) rfl
have e1:VL.El.setCur ⟨kind,tag,count,list,some (pre,a)⟩ l=⟨kind,tag,count,l,some (pre,a)⟩:=if_neg hk
rw [e1] at hq
exact h.2 q hq}
theorem nG (e:El) (l:Q3 (Q3 PV)):(e.setCur l).cur=l:=by{
obtain ⟨kind,tag,count,list,args⟩:=e
rcases args with _ | ⟨pre,a⟩
rfl
by_cases hk:kind=3
have e1:VL.El.setCur ⟨kind,tag,count,list,some (pre,a)⟩ l=⟨kind,tag,count,list,some (pre,⟨a.named,a.name,l⟩)⟩:=if_pos hk
rw [e1]
exact if_pos hk
have e1:VL.El.setCur ⟨kind,tag,count,list,some (pre,a)⟩ l=⟨kind,tag,count,l,some (pre,a)⟩:=if_neg hk
rw [e1]
exact if_neg hk}
theorem dW {l l':Q3 (Q3 PV)} {n:Node} (h:F8 l n=some l'):l'.length<=9223372036854775807:=by
 obtain ⟨_,h2,rfl⟩:=GS h
 simpa using h2
theorem CF {e e':El} {r:Q3 El} {s:Q1} (hf:fit e r) (h:AK e s=some e'):fit e' r:=by{
unfold AK at h
split at h
injection h with h
rw [<- h]
exact hf
obtain ⟨l',hR,rfl⟩:=Ye.1 h
refine ⟨nF hf.1,?_⟩
rw [nG]
rcases WV hR with ⟨_,hR⟩ | ⟨init,n,hl,⟨_,y,_,rfl⟩ | ⟨_,hR⟩⟩
exact dW hR
have:=hf.2
rw [hl,GE] at this
rw [GE]
exact this
exact dW hR}
theorem QA {e e':El} {r:Q3 El} {n:Node} (hf:fit e r) (h:EI e n=some e'):fit e' r:=by
 obtain ⟨l',hR,rfl⟩:=Ye.1 h
 exact ⟨nF hf.1,by rw [nG];exact dW hR⟩
theorem nH {r:Q3 El}:∀ {l:Q3 (Q3 PV)} {e e':El},fit e r->FV e l=some e'->fit e' r
 | [],e,e',hf,h=>by injection h with h;rw [<- h];exact hf
 | x::l,e,e',hf,h=>by
   obtain ⟨n,_,h⟩:=Ya.1 h
   obtain ⟨e1,h1,h⟩:=Ya.1 h
   refine nH (l:=l) (e:=e1) ?_ h
   split at h1
   exact CF hf h1
   exact QA hf h1
theorem Zyq (l:Q3 (Q3 PV)) (e e2:El) (r:Q3 El) (hf:fit e r) (h:FV e l=some e2) (hl:l.length<=4611686018427387904):PC 114 [.sl l] e r (.tup []) e2 r:=by{
refine ZG mix Tryz.func114 (by kernel_rfl) rfl (by kernel_rfl) ?_
rw [CV]
repeat (first | refine Zr rfl (by (conv=>lhs;whnf);try rfl) ?_ | refine G5 rfl rfl ?_ | refine Zf ?_ | refine Zl ?_ | refine Zb ?_ | refine CB ?_)
refine Zu (fun (a:Nat×El) _=>mkS [(0,.ptr 0 (0,0) 0),(6,.sl l),(7,.int .i64 (l.length:Int)),(8,.int .i64 ((a.1:Nat):Int))] (somes (stP νb a.2 r)) 2) (fun a=>a.1<=l.length/\fit a.2 r/\FV a.2 (l.drop a.1)=some e2) (fun a=>l.length-a.1) (0,e) 2 ⟨YJ _,hf,h⟩
 (C8 νa [] (fun k=>(k,νa k)) (fun _ _=>rfl) rfl ⟨rfl,rfl,rfl,rfl,trivial⟩ (x:=[]) (x':=[]) rfl rfl rfl (AO _) rfl) (fun a ng hJ=>?_)
obtain ⟨q,e1⟩:=a
obtain ⟨hq,hf1,hn⟩:=hJ
dsimp only at hq hf1 hn ⊢
repeat (first | refine A7 rfl rfl rfl rfl (by (conv=>lhs;whnf);try rfl) ?_ | refine Zf ?_ | refine Zl ?_ | refine Zb ?_)
by_cases hlt:q<l.length
refine Zv (by (conv=>lhs;whnf);try rfl) (by simp;omega) ?_
rw [Yt hlt] at hn
obtain ⟨n,hx,hn⟩:=Ya.1 hn
obtain ⟨e3,h3,hn⟩:=Ya.1 hn
have hcs:l[q]? = some n.cs:=by rw [Yc hlt,mZ hx]
by_cases hk:n.kind=1
·rw [if_pos hk] at h3
 repeat (first | (refine OS rfl rfl rfl hcs rfl ?_) | refine ZJ rfl rfl rfl ?_ | refine Zm rfl rfl ?_ | refine A7 rfl rfl rfl rfl (by (conv=>lhs;whnf);try rfl) ?_ | refine GR rfl rfl ?_ | refine BS rfl rfl rfl (by (conv=>lhs;whnf);try rfl) (by (conv=>lhs;whnf);try rfl) (by rfl) (by rfl) (Yk rfl) (by (conv=>lhs;whnf);try rfl) ?_ | refine Zf ?_ | refine Zl ?_ | refine Zb ?_ | refine CB ?_ | refine ZH ?_)
 rw [Yh hk]
 repeat (first | (refine Zv rfl rfl ?_) | (refine ZC [_,_] νb (CP e1 r n.text hf1.1 hf1.2 e3 h3) rfl rfl rfl rfl rfl rfl ?_) | refine Zr rfl (by (conv=>lhs;whnf);try rfl) ?_ | refine ZJ rfl rfl rfl ?_ | refine Zm rfl rfl ?_ | refine MX rfl rfl (by omega) ?_ | refine Zf ?_ | refine Zb ?_ | refine ZE ?_)
 exact C6 (q+1,e3) 2 ⟨by omega,CF hf1 h3,hn⟩ (by dsimp only;omega) (C8 (νc 5 3) [_,_] (fun k=>(k,νc 5 3 k)) (fun _ _=>rfl) rfl ⟨rfl,rfl,rfl,rfl,trivial⟩ (x:=[]) (x':=[]) rfl rfl rfl (AO _) rfl)
·rw [if_neg hk] at h3
 repeat (first | (refine OS rfl rfl rfl hcs rfl ?_) | refine ZJ rfl rfl rfl ?_ | refine Zm rfl rfl ?_ | refine A7 rfl rfl rfl rfl (by (conv=>lhs;whnf);try rfl) ?_ | refine GR rfl rfl ?_ | refine BS rfl rfl rfl (by (conv=>lhs;whnf);try rfl) (by (conv=>lhs;whnf);try rfl) (by rfl) (by rfl) (Yk rfl) (by (conv=>lhs;whnf);try rfl) ?_ | refine Zf ?_ | refine Zl ?_ | refine Zb ?_ | refine CB ?_ | refine ZH ?_)
 rw [Yf hk]
 repeat (first | (refine Zk rfl rfl ?_) | (refine ZC [_,_] νb (KJ e1 r n hf1.1 e3 h3) rfl rfl rfl rfl rfl rfl ?_) | refine Zr rfl (by (conv=>lhs;whnf);try rfl) ?_ | refine ZJ rfl rfl rfl ?_ | refine MX rfl rfl (by omega) ?_ | refine Zf ?_ | refine Zb ?_ | refine ZE ?_)
 exact C6 (q+1,e3) 2 ⟨by omega,QA hf1 h3,hn⟩ (by dsimp only;omega) (C8 (νc 5 2) [_,_] (fun k=>(k,νc 5 2 k)) (fun _ _=>rfl) rfl ⟨rfl,rfl,rfl,rfl,trivial⟩ (x:=[]) (x':=[]) rfl rfl rfl (AO _) rfl)
·refine Zk (by (conv=>lhs;whnf);try rfl) (by simp;omega) ?_
 repeat (first | refine DD ?_ | refine ZE ?_ | refine GQ ?_ | refine MU ?_)
 obtain rfl:q=l.length:=by omega
 rw [GL] at hn
 injection hn with hn
 subst hn
 exact BX (.inr rfl) νb [] [] rfl rfl trivial rfl rfl}
end
namespace VL
def El.argL (e:El):Q3 Arg:=match e.args with | none=>[] | some (pre,a)=>pre ++ [a]
def El.cells (e:El):Q3 PV:=[.int .i64 e.kind,.int .i64 e.tag,.int .i64 e.count,.sl e.list,.sl (e.argL.map Arg.cs)]
section
variable {NT AT ET:Nat}
theorem TE {pre:Q3 Arg}:∀ el ∈ pre.map Arg.cs,∀ p ∈ el,p.pure=true:=fun el hel p hp=>by
 obtain ⟨a,_,rfl⟩:=Yy.1 hel
 simp [Arg.cs] at hp
 rcases hp with rfl | rfl | rfl<;>rfl
theorem KL {f:Nat->Q2 (Gen×VObj)} {t E k:Nat} {g:Gen} {els:Q3 (Q3 PV)} (h:f t=some (g,.row E k false els)):CW f (.row t g)=some (.sl els,[(t,some (g,.row E k true els))]):=by
 simp [CW,A6,h]
theorem nI {b:Nat} {g g1 g2:Gen} {tm:Q3 (Nat×PV)} {ob:Q3 (Nat×Q2 (Gen×VObj))} {ng:Nat} {k t c:Int} {l els:Q3 (Q3 PV)} (h0:Zn ob b=some (g,.box [.int .i64 k,.int .i64 t,.int .i64 c,.row (b+1) g1,.row (b+2) g2])) (h1:Zn ob (b+1)=some (g1,.row NT 5 false l)) (h2:Zn ob (b+2)=some (g2,.prow AT 3 els))
  (hp:∀ el ∈ els,∀ p ∈ el,p.pure=true):Shift (mkS tm ob ng) (mkS tm ((b,some (g,.box [.int .i64 k,.int .i64 t,.int .i64 c,.sl l,.sl els]))::(b+2,some (g2,.row AT 3 true els))::(b+1,some (g1,.row NT 5 true l))::(b+2,some (g2,.row AT 3 false els))::ob) ng):=by{
have n1:∀ {j i:Nat},j≠i->b+j≠b+i:=fun h e=>h (by omega)
have e0:Zn ((b+2,some (g2,VObj.row AT 3 false els))::ob) b=some (g,.box [.int .i64 k,.int .i64 t,.int .i64 c,.row (b+1) g1,.row (b+2) g2]):=by
 show (if b=b+2 then _ else Zn ob b)=_
 rw [if_neg (by omega),h0]
have e1:Zn ((b+2,some (g2,VObj.row AT 3 false els))::ob) (b+1)=some (g1,.row NT 5 false l):=by
 show (if b+1=b+2 then _ else Zn ob (b+1))=_
 rw [if_neg (by omega),h1]
have e2:Zn ((b+2,some (g2,VObj.row AT 3 false els))::ob) (b+2)=some (g2,.row AT 3 false els):=if_pos rfl
refine Shift.trans (mR (b+2) h2 hp) ?_
exact P1 b e0 (us:=[(b+1,some (g1,.row NT 5 true l)),(b+2,some (g2,.row AT 3 true els))]) (by
 have r1:=KL e1
 have r2:=KL e2
 simp only [AM]
 rw [r1,r2]
 rfl)}
theorem dX (n1:Gen) (ν:Nat->Gen) {e e2:El} {r:Q3 El} {tm tm':Q3 (Nat×PV)} {ng:Nat} (h1:EA (σf (popf (0,0) n1 (fun _=>(1001,ν 1001)) ν (A4 r))) tm tm') :
  Shift (mkS tm ((0,some ((0,0),.box [.row 1000 n1]))::(1000,some (n1,.prow ET 1 (AL ν (e2::r))))::somes (stO NT AT ET ν e (e2::r))) ng) (mkS tm' (somes ((300,νb 300,.box e.cells)::stO NT AT ET νb e2 r)) 2):=by{
obtain ⟨k,t,c,l,args⟩:=e
have hx:∀ e:El,AI (σf (popf (0,0) n1 (fun _=>(1001,ν 1001)) ν (A4 r))) [(300,νb 300,.box e.cells)]=some [(1001,ν 1001,.box e.cells)]:=fun _=>rfl
rcases args with _ | ⟨pre,a⟩
refine Shift.trans (nI (b:=1001) rfl rfl rfl (fun e he=>absurd he L3)) ?_
exact WS (0,0) n1 (fun _=>(1001,ν 1001)) ν tm' h1 rfl rfl (hx ⟨k,t,c,l,none⟩) (fun q hq=>by rw [YG.1 hq];exact ⟨by show 1001≠0;omega,by show 1001≠1000;omega,by show 1001<2000;omega⟩) (by simp) (Zp rfl (AO _)) (GX (A:=[_,_,_,_,_,_]) rfl)
have hset:(EY 1001 ν (some (pre,a))).set pre.length (AN [.bool a.named,.sl a.name,.row (1001+3) (ν (1001+3))] 2 [.sl a.value])=(pre ++ [a]).map Arg.cs:=by
 have:=EG (pre.map Arg.cs) [.bool a.named,.sl a.name,.row (1001+3) (ν (1001+3))] a.cs
 rw [Yv] at this
 rw [YR]
 exact this
have hget:(EY 1001 ν (some (pre,a)))[pre.length]? = some [.bool a.named,.sl a.name,.row (1001+3) (ν (1001+3))]:=by
 have:=D0 (pre.map Arg.cs) [.bool a.named,.sl a.name,.row (1001+3) (ν (1001+3))]
 rwa [Yv] at this
refine Shift.trans (KH 1003 pre.length 2 rfl hget rfl (KL rfl) hset) ?_
refine Shift.trans (nI (b:=1001) rfl rfl rfl TE) ?_
exact WS (0,0) n1 (fun _=>(1001,ν 1001)) ν tm' h1 rfl rfl (hx ⟨k,t,c,l,some (pre,a)⟩) (fun q hq=>by rw [YG.1 hq];exact ⟨by show 1001≠0;omega,by show 1001≠1000;omega,by show 1001<2000;omega⟩) (by simp) (Zp rfl (AO _)) (GX (A:=[_,_,_,_,_,_,_,_]) rfl)}
end
section
variable {NT AT ET:Nat} {P:Program} [WInv P] {ops:Array Oper} {draw:Bool} {i:Nat} {L:Q3 Oper} {acc:Q3 (Q3 Nat×Q3 Nat)} {K:FS->Prop} {tm:Q3 (Nat×PV)} {ob:Q3 (Nat×Q2 (Gen×VObj))} {ng:Nat}
 {d:Q2 Tmp} {ty:TypeId} {pos:String} {after:Array Edge} {gd:Q2 (Nat×Bool)}
theorem QB {f:FuncId} {es:Array Operand} {ts:Array TypeId} {e e2:El} {r:Q3 El} (lits:Q3 (Nat×Q2 (Gen×VObj))) (ν:Nat->Gen) (hc:ContractG P f [.ptr 0 (0,0) 0] (objs (stO NT AT ET νa e (e2::r))) (.ptr 1001 (0,1001) 0) (F7 NT AT ET νa (1,1000) e e2 r)) (hob:ob=lits++somes (stO NT AT ET ν e (e2::r))) (hl:(lits.all fun q=>!BK q.1)=true)
  (hw:Zh ops (mkS tm ob ng) ⟨d,.call ⟨.value (.func f),es,ts⟩,ty,pos,after,gd⟩=some true) (he:es.toList.map (evL tm) = [.ptr 0 (ν 0) 0])
  (k:GoL P ops draw (i+1) L (acc ++ [(ZD (mkS tm ob ng) ⟨d,.call ⟨.value (.func f),es,ts⟩,ty,pos,after,gd⟩,(usG (κp id) (objs (stO NT AT ET νa e (e2::r))) (F7 NT AT ET ν (ng,i+1000000 * (1000+1)) e e2 r)).map (·.1))]) (mkS (A5 d (.ptr 1001 (ν 1001) 0) tm) ((0,some (ν 0,.box [.row 1000 (ng,i+1000000 * (1000+1))]))::(1000,some ((ng,i+1000000 * (1000+1)),.prow ET 1 (AL ν (e2::r))))::ob) ng) K) :
  GoL P ops draw i (⟨d,.call ⟨.value (.func f),es,ts⟩,ty,pos,after,gd⟩::L) acc (mkS tm ob ng) K:=by{
have hHas:Has ob (stO NT AT ET ν e (e2::r)):=by rw [hob];exact DN hl
have hk:=mW (NT:=NT) (AT:=AT) (ET:=ET) ν ng i e (e2::r)
have hn:∀ (ν:Nat->Gen) (n1:Gen),((F7 NT AT ET ν n1 e e2 r).map (·.1)).Nodup:=fun ν n1=>by rw [dV];exact DX _ _ _
have hlow:∀ q ∈ AX NT AT νa (e2::r),σ1 (F6 (objs (stO NT AT ET νa e (e2::r)))) (κp id) (γp ν ν) id ng i (νa q.1)=some (q.1,ν q.1):=fun q hq=>hk q (Yg _ (Yg _ (YK _ hq)))
have hX:AI (σ1 (F6 (objs (stO NT AT ET νa e (e2::r)))) (κp id) (γp ν ν) id ng i) (F7 NT AT ET νa (1,1000) e e2 r)=some (F7 NT AT ET ν (ng,i+1000000 * (1000+1)) e e2 r):=by
 have e0:=hk _ (Yi ..)
 have e1:σ1 (F6 (objs (stO NT AT ET νa e (e2::r)))) (κp id) (γp ν ν) id ng i (1,1000)=some (1000,(ng,i+1000000 * (1000+1))):=by simp [σ1]
 have hp:=dU hlow
 have he:=GA (dS (NT:=NT) (AT:=AT) (b:=1001) (ν:=νa) (ν':=ν) (e:=e) fun q hq=>hk q (Yg _ (Yg _ (Yz _ hq)))) (dT hlow)
 simp only [F7,AI,rnO,rnL,rn1,e0,e1,Yo,hp,he]
have hp:rnP (σ1 (F6 (objs (stO NT AT ET νa e (e2::r)))) (κp id) (γp ν ν) id ng i) (.ptr 1001 (0,1001) 0)=some (.ptr 1001 (ν 1001) 0):=by
 have e1:=hk _ (Yg _ (Yg _ (Yz _ (Yi ..))))
 have e2:σ1 (F6 (objs (stO NT AT ET νa e (e2::r)))) (κp id) (γp ν ν) id ng i (0,1001)=some (1001,ν 1001):=e1
 simp only [rnP,rn1,e2,Yo]
refine mV lits ν hc hob hl hw he rfl hp hX (hn _ _) (fun t=>?_) k
rw [WQ (hn _ _)]
by_cases h1:∃ q ∈ F7 NT AT ET ν (ng,i+1000000 * (1000+1)) e e2 r,q.1=t
rw [if_pos h1]
obtain ⟨⟨t',g,o⟩,hq,rfl⟩:=h1
have w:=FQ [] (hn _ _) hq
rw [YB] at w
rw [w]
rcases Ys.1 hq with e1 | hq
injection e1 with e1 e2;injection e2 with e2 e3;subst e1 e2 e3;rfl
rcases Ys.1 hq with e1 | hq
injection e1 with e1 e2;injection e2 with e2 e3;subst e1 e2 e3;rfl
have hk2:1001<=t':=by
 rcases YD.1 hq with h | h
 exact (JE h).1
 have:=(KA h).1;change 2000<=t' at this;omega
show _=if t'=0 then _ else if t'=1000 then _ else Zn ob t'
rw [if_neg (by omega),if_neg (by omega)]
exact (hHas _ _ _ (Yg _ (Yg _ hq))).symm
rw [if_neg h1,if_neg fun ⟨q,hq,e3⟩=>h1 (by
 obtain ⟨g,hg⟩:=Q5 (l:=stO NT AT ET νa e (e2::r)) (t:=q.1) (o:=q.2) hq
 have hm2:q.1 ∈ (F7 NT AT ET ν (ng,i+1000000 * (1000+1)) e e2 r).map (·.1):=by
  rw [dV,TA ν νa]
  exact Yy.2 ⟨_,hg,rfl⟩
 obtain ⟨q2,hq2,e4⟩:=Yy.1 hm2
 have hk:κp id q.1=q.1:=by simp [κp]
 exact ⟨q2,hq2,by rw [e4,<- hk];exact e3⟩)]
have t0:¬ t=0:=fun e=>h1 ⟨_,Yi ..,e.symm⟩
have t1:¬ t=1000:=fun e=>h1 ⟨_,Yg _ (Yi ..),e.symm⟩
show _=if t=0 then _ else if t=1000 then _ else Zn ob t
rw [if_neg t0,if_neg t1]}
end
section
variable {NT AT ET:Nat}
theorem nJ {f:Nat->Q2 (Gen×VObj)} {t E k:Nat} {g:Gen} {els:Q3 (Q3 PV)} (h:f t=some (g,.row E k true els)):CW f (.row t g)=some (.sl els,[]):=by
 simp [CW,A6,h]
theorem dY {ν:Nat->Gen} {kind tag count m:Int} {list:Q3 (Q3 PV)} {args:Q2 (Q3 Arg×Arg)} {r:Q3 El} {lits:Q3 (Nat×Q2 (Gen×VObj))} {tm:Q3 (Nat×PV)} {ng:Nat} (hl:(lits.all fun q=>!BK q.1)=true) :
  Shift (mkS tm ((1001,some (ν 1001,.box [.int .i64 kind,.int .i64 tag,.int .i64 m,.row 1002 (ν 1002),.row 1003 (ν 1003)]))::(lits++somes (stO NT AT ET ν ⟨kind,tag,count,list,args⟩ r))) ng) (mkS tm (lits++somes (stO NT AT ET ν ⟨kind,tag,m,list,args⟩ r)) ng):=by{
rw [TB (ob':=lits++somes (stO NT AT ET ν ⟨kind,tag,m,list,args⟩ r)) fun t=>?_]
exact Shift.refl _
show (if t=1001 then _ else Zn (lits++somes (stO NT AT ET ν ⟨kind,tag,count,list,args⟩ r)) t)=_
by_cases ht:t=1001
rw [if_pos ht,ht]
have hm:(1001,ν 1001,VObj.box [.int .i64 kind,.int .i64 tag,.int .i64 m,.row 1002 (ν 1002),.row 1003 (ν 1003)]) ∈ stO NT AT ET ν ⟨kind,tag,m,list,args⟩ r:=Yg _ (Yg _ (Yz _ (Yi ..)))
exact (DN hl _ _ _ hm).symm
rw [if_neg ht]
have two:∀ (a:Q3 (Nat×Q2 (Gen×VObj))),Zn (a++somes (stO NT AT ET ν ⟨kind,tag,count,list,args⟩ r)) t=Zn (a++somes (stO NT AT ET ν ⟨kind,tag,m,list,args⟩ r)) t:=fun a=>by
 induction a with
 | nil=>
   show (if t=0 then _ else if t=1000 then _ else if t=1001 then _ else _)=(if t=0 then _ else if t=1000 then _ else if t=1001 then _ else _)
   by_cases h0:t=0
   rw [if_pos h0,if_pos h0]
   rw [if_neg h0,if_neg h0]
   by_cases h1:t=1000
   rw [if_pos h1,if_pos h1]
   rw [if_neg h1,if_neg h1,if_neg ht,if_neg ht]
 | cons q a ih=>
   show (if t=q.1 then q.2 else Zn (a++_) t)=if t=q.1 then q.2 else Zn (a++_) t
   rw [ih]
exact two lits}
theorem M5 {b u:Nat} {g g1 g2:Gen} {tm:Q3 (Nat×PV)} {ob:Q3 (Nat×Q2 (Gen×VObj))} {ng:Nat} {k t:Int} {s:Q1} {l els:Q3 (Q3 PV)} (hu:u≠b+2) (h0:Zn ob u=some (g,.box [.int .i64 k,.int .i64 t,.str s,.row (b+1) g1,.row (b+2) g2])) (h1:Zn ob (b+1)=some (g1,.row NT 5 false l)) (h2:Zn ob (b+2)=some (g2,.prow AT 3 els))
  (hp:∀ el ∈ els,∀ p ∈ el,p.pure=true):Shift (mkS tm ob ng) (mkS tm ((u,some (g,.box [.int .i64 k,.int .i64 t,.str s,.sl l,.sl els]))::(b+2,some (g2,.row AT 3 true els))::(b+1,some (g1,.row NT 5 true l))::(b+2,some (g2,.row AT 3 false els))::ob) ng):=by{
have e0:Zn ((b+2,some (g2,VObj.row AT 3 false els))::ob) u=some (g,.box [.int .i64 k,.int .i64 t,.str s,.row (b+1) g1,.row (b+2) g2]):=by
 show (if u=b+2 then _ else Zn ob u)=_
 rw [if_neg hu,h0]
have e1:Zn ((b+2,some (g2,VObj.row AT 3 false els))::ob) (b+1)=some (g1,.row NT 5 false l):=by
 show (if b+1=b+2 then _ else Zn ob (b+1))=_
 rw [if_neg (by omega),h1]
have e2:Zn ((b+2,some (g2,VObj.row AT 3 false els))::ob) (b+2)=some (g2,.row AT 3 false els):=if_pos rfl
refine Shift.trans (mR (b+2) h2 hp) ?_
exact P1 u e0 (us:=[(b+1,some (g1,.row NT 5 true l)),(b+2,some (g2,.row AT 3 true els))]) (by
 have r1:=KL e1
 have r2:=KL e2
 simp only [AM]
 rw [r1,r2]
 rfl)}
theorem nK {b:Nat} {g g1 g2:Gen} {tm:Q3 (Nat×PV)} {ob:Q3 (Nat×Q2 (Gen×VObj))} {ng:Nat} {k t c:Int} {l els:Q3 (Q3 PV)} (h0:Zn ob b=some (g,.box [.int .i64 k,.int .i64 t,.int .i64 c,.row (b+1) g1,.row (b+2) g2])) (h1:Zn ob (b+1)=some (g1,.row NT 5 true l)) (h2:Zn ob (b+2)=some (g2,.row AT 3 true els)) :
  Shift (mkS tm ob ng) (mkS tm ((b,some (g,.box [.int .i64 k,.int .i64 t,.int .i64 c,.sl l,.sl els]))::ob) ng):=
 P1 b h0 (us:=[]) (by
  have r1:=nJ h1
  have r2:=nJ h2
  simp only [AM]
  rw [r1,r2]
  rfl)
theorem dZ (n1 g8:Gen) (ν:Nat->Gen) {e e2:El} {r:Q3 El} {k t:Int} {s:Q1} {tm tm':Q3 (Nat×PV)} {ng:Nat} (h1:EA (σf (popf (0,0) n1 (fun k=>if k=8 then (8,g8) else (1001,ν 1001)) ν (A4 r))) tm tm') :
  Shift (mkS tm ((0,some ((0,0),.box [.row 1000 n1]))::(1000,some (n1,.prow ET 1 (AL ν (e2::r))))::(8,some (g8,.box [.int .i64 k,.int .i64 t,.str s,.row 1002 (ν 1002),.row 1003 (ν 1003)]))::somes (stO NT AT ET ν e (e2::r))) ng)
   (mkS tm' (somes ((8,νb 8,.box [.int .i64 k,.int .i64 t,.str s,.sl e.list,.sl (e.argL.map Arg.cs)])::(300,νb 300,.box e.cells)::stO NT AT ET νb e2 r)) 2):=by{
obtain ⟨k1,t1,c,l,args⟩:=e
have hx:∀ e:El,AI (σf (popf (0,0) n1 (fun k=>if k=8 then (8,g8) else (1001,ν 1001)) ν (A4 r))) [(8,νb 8,.box [.int .i64 k,.int .i64 t,.str s,.sl e.list,.sl (e.argL.map Arg.cs)]),(300,νb 300,.box e.cells)]=some [(8,g8,.box [.int .i64 k,.int .i64 t,.str s,.sl e.list,.sl (e.argL.map Arg.cs)]),(1001,ν 1001,.box e.cells)]:=fun _=>rfl
have hX:∀ e:El,∀ q ∈ [(8,g8,VObj.box [.int .i64 k,.int .i64 t,.str s,.sl e.list,.sl (e.argL.map Arg.cs)]),(1001,ν 1001,.box e.cells)],q.1≠0/\q.1≠1000/\q.1<2000:=fun e q hq=>by
 rcases Ys.1 hq with rfl | hq
 exact ⟨by show 8≠0;omega,by show 8≠1000;omega,by show 8<2000;omega⟩
 rw [YG.1 hq]
 exact ⟨by show 1001≠0;omega,by show 1001≠1000;omega,by show 1001<2000;omega⟩
rcases args with _ | ⟨pre,a⟩
refine Shift.trans (M5 (b:=1001) (u:=8) (by omega) rfl rfl rfl (fun e he=>absurd he L3)) ?_
refine Shift.trans (nK (b:=1001) rfl rfl rfl) ?_
exact WS (0,0) n1 _ ν tm' h1 rfl rfl (hx ⟨k1,t1,c,l,none⟩) (hX ⟨k1,t1,c,l,none⟩) (by simp) (Zp rfl (Zp rfl (AO _))) (GX (A:=[_,_,_,_,_,_,_,_]) rfl)
have hset:(EY 1001 ν (some (pre,a))).set pre.length (AN [.bool a.named,.sl a.name,.row (1001+3) (ν (1001+3))] 2 [.sl a.value])=(pre ++ [a]).map Arg.cs:=by
 have:=EG (pre.map Arg.cs) [.bool a.named,.sl a.name,.row (1001+3) (ν (1001+3))] a.cs
 rw [Yv] at this
 rw [YR]
 exact this
have hget:(EY 1001 ν (some (pre,a)))[pre.length]? = some [.bool a.named,.sl a.name,.row (1001+3) (ν (1001+3))]:=by
 have:=D0 (pre.map Arg.cs) [.bool a.named,.sl a.name,.row (1001+3) (ν (1001+3))]
 rwa [Yv] at this
refine Shift.trans (KH 1003 pre.length 2 rfl hget rfl (KL rfl) hset) ?_
refine Shift.trans (M5 (b:=1001) (u:=8) (by omega) rfl rfl rfl TE) ?_
refine Shift.trans (nK (b:=1001) rfl rfl rfl) ?_
exact WS (0,0) n1 _ ν tm' h1 rfl rfl (hx ⟨k1,t1,c,l,some (pre,a)⟩) (hX ⟨k1,t1,c,l,some (pre,a)⟩) (by simp) (Zp rfl (Zp rfl (AO _))) (GX (A:=[_,_,_,_,_,_,_,_,_,_]) rfl)}
def newf (m2 m3:Gen) (k2 k3:Nat) (ν:Nat->Gen) (k:Nat):Nat×Gen:=if k=1002 then (k2,m2) else if k=1003 then (k3,m3) else (k,ν k)
theorem QC (m2 m3:Gen) (k2 k3:Nat) (ν:Nat->Gen) (h00:ν 0=(0,0)) {r:Q3 El} {kind tag count:Int} {list:Q3 (Q3 PV)} {tm tm':Q3 (Nat×PV)} {ob:Q3 (Nat×Q2 (Gen×VObj))} {ng:Nat} (h1:EA (σf (newf m2 m3 k2 k3 ν)) tm tm') (a0:Zn ob 0=some (ν 0,.box [.row 1000 (ν 1000)])) (a1:Zn ob 1000=some (ν 1000,.prow ET 1 (AL ν r ++ [[.ptr 1001 (ν 1001) 0]])))
  (b1:Zn ob 1001=some (ν 1001,.box [.int .i64 kind,.int .i64 tag,.int .i64 count,.row k2 m2,.row k3 m3])) (b2:Zn ob k2=some (m2,.row NT 5 false list)) (b3:Zn ob k3=some (m3,.prow AT 3 [])) (hk:(decide ([k2,k3].Nodup) && [k2,k3].all fun k=>!BK k)=true) (a3:Has ob (AX NT AT ν r)) :
  Shift (mkS tm ob ng) (mkS tm' (somes (stO NT AT ET νb ⟨kind,tag,count,list,none⟩ r)) 2):=by{
have hl:∀ k,2000<=k->σf (newf m2 m3 k2 k3 ν) (νb k)=some (k,ν k):=fun k hk=>by
 have h1:¬ k=0:=by omega
 have h2:¬ k=1002:=by omega
 have h3:¬ k=1003:=by omega
 simp [σf,νb,newf,h1,h2,h3]
have e0:σf (newf m2 m3 k2 k3 ν) (νb 0)=some (0,ν 0):=by rw [h00];rfl
have e1:σf (newf m2 m3 k2 k3 ν) (νb 1000)=some (1000,ν 1000):=rfl
have e2:σf (newf m2 m3 k2 k3 ν) (νb 1001)=some (1001,ν 1001):=rfl
have e3:σf (newf m2 m3 k2 k3 ν) (νb (1001+1))=some (k2,m2):=rfl
have e4:σf (newf m2 m3 k2 k3 ν) (νb (1001+2))=some (k3,m3):=rfl
have hp:AW (σf (newf m2 m3 k2 k3 ν)) (AL νb r ++ [[.ptr 1001 (νb 1001) 0]])=some (AL ν r ++ [[.ptr 1001 (ν 1001) 0]]):=GU (P6 hl r) (by simp only [AW,rnL,rn1,e2,Yo])
have he:=P5 (NT:=NT) (AT:=AT) hl r
have h2:AI (σf (newf m2 m3 k2 k3 ν)) (stO NT AT ET νb ⟨kind,tag,count,list,none⟩ r)=some ((0,ν 0,.box [.row 1000 (ν 1000)])::(1000,ν 1000,.prow ET 1 (AL ν r ++ [[.ptr 1001 (ν 1001) 0]]))::(1001,ν 1001,.box [.int .i64 kind,.int .i64 tag,.int .i64 count,.row k2 m2,.row k3 m3])::(k2,m2,.row NT 5 false list)::(k3,m3,.prow AT 3 [])::AX NT AT ν r):=by
 have key:∀ X,elO NT AT 1001 νb ⟨kind,tag,count,list,none⟩++X=(1001,νb 1001,.box [.int .i64 kind,.int .i64 tag,.int .i64 count,.row (1001+1) (νb (1001+1)),.row (1001+2) (νb (1001+2))])::(1001+1,νb (1001+1),.row NT 5 false list)::(1001+2,νb (1001+2),.prow AT 3 [])::X:=fun _=>rfl
 unfold stO
 rw [key]
 simp only [AI,rnO,rnL,AW,rn1,e0,e1,e2,e3,e4,Yo,hp,he]
simp only [YH,YT,Yq,IB] at hk
obtain ⟨hn,hpk⟩:=hk
have hpk':∀ k ∈ [k2,k3],¬ (k=0\/1000<=k):=fun k hk h=>by
 have:=hpk k hk
 rw [LZ h] at this
 cases this
refine KF _ h1 h2 (Zp a0 (Zp a1 (Zp b1 (Zp b2 (Zp b3 a3))))) ?_
have hrest:∀ k ∈ (AX NT AT ν r).map (·.1),2000<=k:=fun k hk=>by
 obtain ⟨q,hq,rfl⟩:=Yy.1 hk
 exact (KA hq).1
have p2:=hpk' k2 (by simp)
have p3:=hpk' k3 (by simp)
simp only [GN,Ys,L3,or_false] at hn
obtain ⟨n23,_⟩:=hn
simp only [YO,GN,Ys,not_or]
refine ⟨⟨by omega,by omega,by omega,by omega,fun h=>by have:=hrest _ h;omega⟩,⟨by omega,by omega,by omega,fun h=>by have:=hrest _ h;omega⟩,⟨by omega,by omega,fun h=>by have:=hrest _ h;omega⟩,⟨n23,fun h=>by have:=hrest _ h;omega⟩,fun h=>by have:=hrest _ h;omega,VS ν r⟩}
end
end VL
section
open VL
def DR (e:El) (l:Q3 (Q3 PV)):Q2 El:=if l.length<=4611686018427387904 then FV e l else none
theorem NH {r:Q3 El} {l:Q3 (Q3 PV)} {e e':El} (hf:fit e r) (h:DR e l=some e'):fit e' r:=by{
unfold DR at h
split at h
exact nH hf h
cases h}
theorem TF (l:Q3 (Q3 PV)) (e e2:El) (r:Q3 El) (hf:fit e r) (h:DR e l=some e2):PC 114 [.sl l] e r (.tup []) e2 r:=by{
unfold DR at h
split at h
rename_i hl
exact Zyq l e e2 r hf h hl
cases h}
def KM (e:El) (r:Q3 El):Q2 (El×Q3 El):=if e.kind=1 then match r with | []=>none | e2::r=>(AK e2 ⟨#[91,91]⟩).bind fun a=>(DR a e.list).bind fun b=>(AK b ⟨#[93,93]⟩).map fun c=>(c,r) else (AK e ⟨#[93,93]⟩).map fun c=>(c,r)
theorem ZlS (e e':El) (r:Q3 El) (hf:fit e r) (hk:e.kind≠1) (h:AK e ⟨#[93,93]⟩=some e'):PC 108 [] e r (.tup []) e' r:=by{
refine ZG mix Tryz.func108 (by kernel_rfl) rfl (by kernel_rfl) ?_
rw [CV]
repeat (first | (refine C9 [] νa (CE e r hf.1.1) rfl rfl rfl rfl rfl rfl ?_) | refine Zr rfl (by (conv=>lhs;whnf);try rfl) ?_ | refine ZJ rfl rfl rfl ?_ | refine Zm rfl rfl ?_ | refine A7 rfl rfl rfl rfl (by (conv=>lhs;whnf);try rfl) ?_ | refine AA rfl rfl ?_ | refine Zf ?_ | refine Zl ?_ | refine Zb ?_)
rw [Yf hk]
repeat (first | (refine Zv rfl rfl ?_) | (refine ZC [] νa (CP e r _ hf.1 hf.2 e' h) rfl rfl rfl rfl rfl rfl ?_) | refine Zr rfl (by (conv=>lhs;whnf);try rfl) ?_ | refine Zf ?_ | refine Zl ?_ | refine Zb ?_ | refine CI ?_)
exact BX (.inl rfl) (νc 2 1) [] [] rfl rfl trivial rfl rfl}
theorem Zm5 (tag count:Int) (list:Q3 (Q3 PV)) (args:Q2 (Q3 Arg×Arg)) (e2 a b c:El) (r:Q3 El) (hr:r.length<=999) (hf:fit e2 r) (h1:AK e2 ⟨#[91,91]⟩=some a) (h2:DR a list=some b) (h3:AK b ⟨#[93,93]⟩=some c) :
  PC 108 [] ⟨1,tag,count,list,args⟩ (e2::r) (.tup []) c r:=by{
have hfa:=CF hf h1
have hfb:=NH hfa h2
refine ZG mix Tryz.func108 (by kernel_rfl) rfl (by kernel_rfl) ?_
rw [CV]
repeat (first | (refine C9 [] νa (CE _ (e2::r) (by simp;omega)) rfl rfl rfl rfl rfl rfl ?_) | (refine Zk rfl rfl ?_) | refine Zr rfl (by (conv=>lhs;whnf);try rfl) ?_ | refine ZJ rfl rfl rfl ?_ | refine Zm rfl rfl ?_ | refine A7 rfl rfl rfl rfl (by (conv=>lhs;whnf);try rfl) ?_ | refine AA rfl rfl ?_ | refine Zf ?_ | refine Zl ?_ | refine Zb ?_ | refine ZH ?_)
refine QB [] νa (Q8 _ e2 r hr) rfl rfl rfl rfl ?_
iterate 2 (refine C5 ?_)
refine CX (dX (2,1+1000000 * (1000+1)) νa (tm':=[(0,.ptr 0 (0,0) 0),(2,.ptr 300 (1,300) 0)]) ⟨rfl,rfl,trivial⟩) ?_ (D3 _ _)
repeat (first | (refine ZC [_] νb (CP e2 r _ hf.1 hf.2 a h1) rfl rfl rfl rfl rfl rfl ?_) | (refine ZC [_] (νc _ _) (TF list a b r hfa h2) rfl rfl rfl rfl rfl rfl ?_) | (refine ZC [_] (νc _ _) (CP b r _ hfb.1 hfb.2 c h3) rfl rfl rfl rfl rfl rfl ?_) | refine Zr rfl (by (conv=>lhs;whnf);try rfl) ?_ | refine ZJ rfl rfl rfl ?_ | refine Zm rfl rfl ?_ | refine AA rfl rfl ?_ | refine Zf ?_ | refine Zl ?_ | refine Zb ?_ | refine ZE ?_)
exact BX (.inr rfl) (νc 4 1) [_] [] rfl rfl trivial rfl rfl}
def JK (e e2:El):Q2 El:=if e.kind=1 then AK e2 ⟨#[91,91]⟩ else if e.kind=2 then (LQ e.tag).bind fun s=>AK e2 s else if e.kind=3 then (strings_Repeat ⟨#[123]⟩ e.count).bind fun s=>AK e2 s else some e2
def M6 (e:El) (a:Arg):Q2 El:=(AK e ⟨#[124]⟩).bind fun b=>((if a.named=true then (DR b a.name).bind fun c=>AK c ⟨#[61]⟩ else some b):Q2 El).bind fun d=>DR d a.value
def IP:El->Q3 Arg->Q2 El | e,[]=>some e | e,a::l=>(M6 e a).bind fun e'=>IP e' l
def JL (e e2:El):Q2 El:=(JK e e2).bind fun a=>(DR a e.list).bind fun b=>if e.argL.length<=4611686018427387904 then IP b e.argL else none
theorem nL {e e2 a:El} {r:Q3 El} (hf:fit e2 r) (h:JK e e2=some a):fit a r:=by{
unfold JK at h
split at h
exact CF hf h
split at h
obtain ⟨s,_,h⟩:=Ya.1 h
exact CF hf h
split at h
obtain ⟨s,_,h⟩:=Ya.1 h
exact CF hf h
injection h with h
rw [<- h]
exact hf}
theorem nM {e e':El} {a:Arg} {r:Q3 El} (hf:fit e r) (h:M6 e a=some e'):fit e' r:=by{
obtain ⟨b,hb,h⟩:=Ya.1 h
obtain ⟨d,hd,h⟩:=Ya.1 h
refine NH ?_ h
split at hd
obtain ⟨c,hc,hd⟩:=Ya.1 hd
exact CF (NH (CF hf hb) hc) hd
injection hd with hd
rw [<- hd]
exact CF hf hb}
abbrev TH (ν:Nat->Gen) (k:Nat):Nat×Gen:=if k=300 then (300,νb 300) else (k,ν k)
theorem WW {ν:Nat->Gen} (k:Nat) (h:k=0\/1000<=k):TH ν k=(k,ν k):=if_neg (by omega)
theorem eB (e e2 e3:El) (r:Q3 El) (hr:r.length<=999) (hf:fit e2 r) (h:JL e e2=some e3):PC 64 [] e (e2::r) (.tup []) e3 r:=by{
obtain ⟨a0,ha0,h⟩:=Ya.1 h
obtain ⟨b0,hb0,h4⟩:=Ya.1 h
by_cases hal:e.argL.length<=4611686018427387904
rotate_left
rw [if_neg hal] at h4
cases h4
rw [if_pos hal] at h4
have hfa:=nL hf ha0
have hfb:=NH hfa hb0
refine ZG mix Tryz.func64 (by kernel_rfl) rfl (by kernel_rfl) ?_
rw [CV]
repeat (first | refine Zr rfl (by (conv=>lhs;whnf);try rfl) ?_ | refine Zl ?_ | refine Zb ?_)
refine QB [] νa (Q8 e e2 r hr) rfl rfl rfl rfl ?_
iterate 2 (refine C5 ?_)
refine CX (dX (1,1+1000000 * (1000+1)) νa (tm':=[(0,.ptr 0 (0,0) 0),(2,.ptr 300 (1,300) 0)]) ⟨rfl,rfl,trivial⟩) ?_ (D3 _ _)
repeat (first | (refine DM (α:=El) (c:=.block 0 _) (fun a _=>mkS [(0,.ptr 0 (0,0) 0),(2,.ptr 300 (1,300) 0)] (somes ((300,νb 300,.box e.cells)::stP νb a r)) 2) (fun a=>a=a0) ?_ (fun a _ hJ=>?_)) | refine Zr rfl (by (conv=>lhs;whnf);try rfl) ?_ | refine ZJ rfl rfl rfl ?_ | refine Zm rfl rfl ?_ | refine Zs rfl (by (conv=>lhs;whnf);try rfl) ?_ | refine A7 rfl rfl rfl rfl (by (conv=>lhs;whnf);try rfl) ?_ | refine AA rfl rfl ?_ | refine Zf ?_ | refine Zl ?_ | refine Zb ?_ | refine CB ?_)
unfold JK at ha0
by_cases h1:e.kind=1
·rw [if_pos h1] at ha0
 rw [Yh h1]
 repeat (first | (refine Zv rfl rfl ?_) | (refine ZC [_] νb (CP e2 r _ hf.1 hf.2 a0 ha0) rfl rfl rfl rfl rfl rfl ?_) | refine Zr rfl (by (conv=>lhs;whnf);try rfl) ?_ | refine Zf ?_ | refine Zb ?_ | refine ZE ?_ | refine BR ?_)
 exact LG a0 2 rfl (C8 (νc 4 1) [_] (TH (νc 4 1)) WW rfl ⟨rfl,rfl,trivial⟩ (x:=[(300,νb 300,.box e.cells)]) (x':=[(300,νb 300,.box e.cells)]) rfl rfl rfl (Zp rfl (AO _)) rfl)
·rw [if_neg h1] at ha0
 rw [Yf h1]
 repeat (first | (refine Zk rfl rfl ?_) | refine Zs rfl (by (conv=>lhs;whnf);try rfl) ?_ | refine A7 rfl rfl rfl rfl (by (conv=>lhs;whnf);try rfl) ?_ | refine Zf ?_ | refine Zl ?_ | refine Zb ?_)
 by_cases h2:e.kind=2
 ·rw [if_pos h2] at ha0
  obtain ⟨s,hs,ha0⟩:=Ya.1 ha0
  rw [Yh h2]
  repeat (first | (refine Zv rfl rfl ?_) | (refine DW (ZkP _ _ hs) rfl rfl ?_) | (refine ZC [_] νb (CP e2 r s hf.1 hf.2 a0 ha0) rfl rfl rfl rfl rfl rfl ?_) | refine Zr rfl (by (conv=>lhs;whnf);try rfl) ?_ | refine ZJ rfl rfl rfl ?_ | refine Zm rfl rfl ?_ | refine AA rfl rfl ?_ | refine Zf ?_ | refine Zb ?_ | refine ZE ?_ | refine BR ?_)
  exact LG a0 2 rfl (C8 (νc 5 6) [_] (TH (νc 5 6)) WW rfl ⟨rfl,rfl,trivial⟩ (x:=[(300,νb 300,.box e.cells)]) (x':=[(300,νb 300,.box e.cells)]) rfl rfl rfl (Zp rfl (AO _)) rfl)
 ·rw [if_neg h2] at ha0
  rw [Yf h2]
  repeat (first | (refine Zk rfl rfl ?_) | refine Zs rfl (by (conv=>lhs;whnf);try rfl) ?_ | refine A7 rfl rfl rfl rfl (by (conv=>lhs;whnf);try rfl) ?_ | refine Zf ?_ | refine Zl ?_ | refine Zb ?_)
  by_cases h3:e.kind=3
  ·rw [if_pos h3] at ha0
   obtain ⟨s,hs,ha0⟩:=Ya.1 ha0
   rw [Yh h3]
   repeat (first | (refine Zv rfl rfl ?_) | (refine DW (cV _ _ _ hs) rfl rfl ?_) | (refine ZC [_] νb (CP e2 r s hf.1 hf.2 a0 ha0) rfl rfl rfl rfl rfl rfl ?_) | refine Zr rfl (by (conv=>lhs;whnf);try rfl) ?_ | refine ZJ rfl rfl rfl ?_ | refine Zm rfl rfl ?_ | refine AA rfl rfl ?_ | refine Zf ?_ | refine Zb ?_ | refine ZE ?_ | refine BR ?_)
   exact LG a0 2 rfl (C8 (νc 6 6) [_] (TH (νc 6 6)) WW rfl ⟨rfl,rfl,trivial⟩ (x:=[(300,νb 300,.box e.cells)]) (x':=[(300,νb 300,.box e.cells)]) rfl rfl rfl (Zp rfl (AO _)) rfl)
  ·rw [if_neg h3] at ha0
   injection ha0 with ha0
   subst ha0
   rw [Yf h3]
   repeat (first | (refine Zk rfl rfl ?_) | refine ZH ?_ | refine ZE ?_ | refine BR ?_)
   exact LG e2 2 rfl (C8 (νb) [_] (TH (νb)) WW rfl ⟨rfl,rfl,trivial⟩ (x:=[(300,νb 300,.box e.cells)]) (x':=[(300,νb 300,.box e.cells)]) rfl rfl rfl (Zp rfl (AO _)) rfl)
·subst hJ
 repeat (first | (refine ZC [_] νb (TF e.list _ b0 r hfa hb0) rfl rfl rfl rfl rfl rfl ?_) | refine Zr rfl (by (conv=>lhs;whnf);try rfl) ?_ | refine ZJ rfl rfl rfl ?_ | refine Zm rfl rfl ?_ | refine AA rfl rfl ?_ | refine G5 rfl rfl ?_ | refine Zf ?_ | refine Zl ?_ | refine Zb ?_ | refine CB ?_)
 refine Zu (fun (a:Nat×El) _=>mkS [(0,.ptr 0 (0,0) 0),(42,.sl (e.argL.map Arg.cs)),(43,.int .i64 ((e.argL.map Arg.cs).length:Int)),(44,.int .i64 ((a.1:Nat):Int))] (somes (stP νb a.2 r)) 2) (fun a=>a.1<=e.argL.length/\fit a.2 r/\IP a.2 (e.argL.drop a.1)=some e3) (fun a=>e.argL.length-a.1) (0,b0) 2 ⟨YJ _,hfb,h4⟩
  (C8 (νc 2 5) [_] (fun k=>(k,νc 2 5 k)) (fun _ _=>rfl) rfl ⟨rfl,rfl,rfl,rfl,trivial⟩ (x:=[]) (x':=[]) rfl rfl rfl (AO _) rfl) (fun a ng hJ=>?_)
 obtain ⟨q,e1⟩:=a
 obtain ⟨hq,hf1,hn⟩:=hJ
 dsimp only at hq hf1 hn ⊢
 repeat (first | refine A7 rfl rfl rfl rfl (by (conv=>lhs;whnf);try rfl) ?_ | refine Zf ?_ | refine Zl ?_ | refine Zb ?_)
 by_cases hlt:q<e.argL.length
 ·refine Zv (by (conv=>lhs;whnf);try rfl) (by simp;omega) ?_
  rw [Yt hlt] at hn
  obtain ⟨e5,h5,hn⟩:=Ya.1 hn
  have hf5:=nM hf1 h5
  have hcs:(e.argL.map Arg.cs)[q]? = some (Arg.cs e.argL[q]):=by rw [Yw,Yc hlt];rfl
  generalize e.argL[q]=ar at hcs h5
  obtain ⟨named,name,value⟩:=ar
  obtain ⟨b,hb,h5⟩:=Ya.1 h5
  obtain ⟨d,hd,h5⟩:=Ya.1 h5
  have hfb2:=CF hf1 hb
  cases named with
  | true=>
    rw [if_pos rfl] at hd
    obtain ⟨c,hc,hd⟩:=Ya.1 hd
    have hfc:=NH hfb2 hc
    have hfd:=CF hfc hd
    repeat (first | (refine OS rfl rfl rfl hcs rfl ?_) | (refine Zv rfl rfl ?_) | (refine ZC [_,_] νb (CP e1 r _ hf1.1 hf1.2 b hb) rfl rfl rfl rfl rfl rfl ?_) | (refine ZC [_,_] (νc _ _) (TF name b c r hfb2 hc) rfl rfl rfl rfl rfl rfl ?_) | (refine ZC [_,_] (νc _ _) (CP c r _ hfc.1 hfc.2 d hd) rfl rfl rfl rfl rfl rfl ?_) | (refine ZC [_,_] (νc _ _) (TF value d e5 r hfd h5) rfl rfl rfl rfl rfl rfl ?_) | refine Zr rfl (by (conv=>lhs;whnf);try rfl) ?_ | refine ZJ rfl rfl rfl ?_ | refine Zm rfl rfl ?_ | refine MX rfl rfl (by omega) ?_ | refine GR rfl rfl ?_ | refine BS rfl rfl rfl (by (conv=>lhs;whnf);try rfl) (by (conv=>lhs;whnf);try rfl) (by rfl) (by rfl) (Yk rfl) (by (conv=>lhs;whnf);try rfl) ?_ | refine Zf ?_ | refine Zl ?_ | refine Zb ?_ | refine CB ?_ | refine ZH ?_ | refine ZE ?_)
    exact C6 (q+1,e5) 2 ⟨by omega,hf5,hn⟩ (by dsimp only;omega) (C8 (νc 8 3) [_,_] (fun k=>(k,νc 8 3 k)) (fun _ _=>rfl) rfl ⟨rfl,rfl,rfl,rfl,trivial⟩ (x:=[]) (x':=[]) rfl rfl rfl (AO _) rfl)
  | false=>
    rw [if_neg RJ] at hd
    injection hd with hd
    subst hd
    repeat (first | (refine OS rfl rfl rfl hcs rfl ?_) | (refine Zk rfl rfl ?_) | (refine ZC [_,_] νb (CP e1 r _ hf1.1 hf1.2 b hb) rfl rfl rfl rfl rfl rfl ?_) | (refine ZC [_,_] (νc _ _) (TF value b e5 r hfb2 h5) rfl rfl rfl rfl rfl rfl ?_) | refine Zr rfl (by (conv=>lhs;whnf);try rfl) ?_ | refine ZJ rfl rfl rfl ?_ | refine Zm rfl rfl ?_ | refine MX rfl rfl (by omega) ?_ | refine GR rfl rfl ?_ | refine BS rfl rfl rfl (by (conv=>lhs;whnf);try rfl) (by (conv=>lhs;whnf);try rfl) (by rfl) (by rfl) (Yk rfl) (by (conv=>lhs;whnf);try rfl) ?_ | refine Zf ?_ | refine Zl ?_ | refine Zb ?_ | refine CB ?_ | refine ZH ?_ | refine ZE ?_)
    exact C6 (q+1,e5) 2 ⟨by omega,hf5,hn⟩ (by dsimp only;omega) (C8 (νc 6 3) [_,_] (fun k=>(k,νc 6 3 k)) (fun _ _=>rfl) rfl ⟨rfl,rfl,rfl,rfl,trivial⟩ (x:=[]) (x':=[]) rfl rfl rfl (AO _) rfl)
 ·refine Zk (by (conv=>lhs;whnf);try rfl) (by simp;omega) ?_
  repeat (first | refine DD ?_ | refine ZE ?_ | refine GQ ?_ | refine MU ?_)
  obtain rfl:q=e.argL.length:=by omega
  rw [GL] at hn
  injection hn with hn
  subst hn
  exact BX (.inr rfl) νb [] [] rfl rfl trivial rfl rfl}
end
section
namespace VL
section
variable {P:Program} [WInv P] {ops:Array Oper} {draw:Bool} {i:Nat} {L:Q3 Oper} {acc:Q3 (Q3 Nat×Q3 Nat)} {K:FS->Prop} {tm:Q3 (Nat×PV)} {ob:Q3 (Nat×Q2 (Gen×VObj))} {ng:Nat}
 {d:Q2 Tmp} {ty:TypeId} {pos:String} {after:Array Edge} {gd:Q2 (Nat×Bool)}
theorem WX {x:Operand} {T:TypeId} {agg:Bool} {n:Nat} [h:Ld P T agg n] (hw:Zh ops (mkS tm ob ng) ⟨d,.load T x,ty,pos,after,gd⟩=some true) {cs:Q3 PV} {t off:Nat} {g:Gen} {v:PV} (hx:evL tm x = .ptr t g off) (hb:Zn ob t=some (g,.box cs)) (hv:K2 agg n (cs.drop off)=some v)
  (k:GoL P ops draw (i+1) L (acc ++ [(ZD (mkS tm ob ng) ⟨d,.load T x,ty,pos,after,gd⟩,[])]) (mkS (A5 d v tm) ob ng) K):GoL P ops draw i (⟨d,.load T x,ty,pos,after,gd⟩::L) acc (mkS tm ob ng) K:=by
 refine ZJ (cs:=cs.drop off) hw ?_ hv k
 rw [hx]
 simp only [GO,A6,hb,if_true]
end
theorem nN {ν:Nat->Gen} {NT AT:Nat} {e':El} {r':Q3 El}:∀ {r:Q3 El},(e'::r') <:+ r->(AL ν r)[r'.length]? = some [.ptr (A4 r') (ν (A4 r')) 0]/\(A4 r',ν (A4 r'),VObj.box [.int .i64 e'.kind,.int .i64 e'.tag,.int .i64 e'.count,.row (A4 r'+1) (ν (A4 r'+1)),.row (A4 r'+2) (ν (A4 r'+2))]) ∈ AX NT AT ν r
 | [],h=>by cases List.suffix_nil.1 h
 | x::r,h=>by
   rcases List.suffix_cons_iff.1 h with h | h
   injection h with h1 h2
   subst h1 h2
   exact ⟨by unfold AL;have:=dR ν r' [.ptr (A4 r') (ν (A4 r')) 0];exact this,Yz _ (Yi ..)⟩
   obtain ⟨h1,h2⟩:=nN (NT:=NT) (AT:=AT) h
   refine ⟨?_,YK _ h2⟩
   unfold AL
   rw [IY (Yd.1 h1).1]
   exact h1
theorem nP {ν:Nat->Gen} {NT AT ET:Nat} {e e':El} {r r':Q3 El} (h:(e'::r') <:+ (e::r)):∃ b c1 c2,(AL ν r ++ [[.ptr 1001 (ν 1001) 0]])[r'.length]? = some [.ptr b (ν b) 0]/\(b,ν b,VObj.box [.int .i64 e'.kind,.int .i64 e'.tag,.int .i64 e'.count,c1,c2]) ∈ stO NT AT ET ν e r:=by{
rcases List.suffix_cons_iff.1 h with h | h
injection h with h1 h2
subst h1 h2
exact ⟨1001,_,_,dR ν r' _,Yg _ (Yg _ (Yz _ (Yi ..)))⟩
obtain ⟨h1,h2⟩:=nN (NT:=NT) (AT:=AT) (ν:=ν) h
refine ⟨_,_,_,?_,Yg _ (Yg _ (YK _ h2))⟩
rw [IY (Yd.1 h1).1]
exact h1}
end VL
open VL
def ZQ:El->Q3 El->Nat | _,[]=>0 | e,e2::r=>if e.kind=2 then 0 else if e.kind=3 then r.length+1 else ZQ e2 r
def BN (k:Int):El->Q3 El->Nat | _,[]=>0 | e,e2::r=>if e.kind=2/\e.tag=k then r.length+1 else BN k e2 r
theorem NI {e:El} {r:Q3 El} {tm tm':Q3 (Nat×PV)} {ng:Nat} (h1:EA (σf fun k=>(k,νa k)) tm tm'):Shift (mkS tm (somes (stP νa e r)) ng) (mkS tm' (somes (stP νa e r)) 2):=
 KF _ h1 (P7 (ν:=νa) (ν':=νa) (fun _ _=>rfl) e r) (DN (lits:=[]) rfl) (DX _ _ _)
theorem Zpi (e:El) (r:Q3 El) (hr:r.length<=1000):ContractG Tryz.prog 171 [.ptr 0 (0,0) 0] (objs (stP νa e r)) (.int .i64 (ZQ e r:Int)) (stP νa e r):=by{
refine ZG mix Tryz.func171 (by kernel_rfl) rfl (by kernel_rfl) ?_
rw [CV]
repeat (first | (refine CO rfl rfl (EF _ _ _) ?_) | (refine EV rfl rfl rfl (by omega) ?_) | refine Zr rfl (by (conv=>lhs;whnf);try rfl) ?_ | refine ZJ rfl rfl rfl ?_ | refine Zm rfl rfl ?_ | refine Zs rfl (by (conv=>lhs;whnf);try rfl) ?_ | refine AA rfl rfl ?_ | refine Zf ?_ | refine Zl ?_ | refine Zb ?_ | refine CB ?_)
refine Zu (fun (a:El×Q3 El) _=>mkS [(0,.ptr 0 (0,0) 0),(3,.int .i64 (a.2.length:Int))] (somes (stP νa e r)) 2) (fun a=>(a.1::a.2) <:+ (e::r)/\ZQ a.1 a.2=ZQ e r) (fun a=>a.2.length) (e,r) 2 ⟨List.suffix_refl _,rfl⟩ (NI ⟨rfl,rfl,trivial⟩) (fun a ng hJ=>?_)
obtain ⟨e1,r1⟩:=a
obtain ⟨hsuf,hlb⟩:=hJ
dsimp only at hsuf hlb ⊢
have hlt:r1.length<r.length+1:=by have:=hsuf.length_le;simp at this;omega
obtain ⟨b,c1,c2,hp,hm⟩:=nP (ν:=νa) (NT:=78) (AT:=111) (ET:=98) hsuf
have hb:=DN (lits:=[]) rfl _ _ _ hm
rcases r1 with _ | ⟨e2,r2⟩
·repeat (first | (refine Zw rfl ?_) | (refine Zk rfl rfl ?_) | refine Zr rfl (by (conv=>lhs;whnf);try rfl) ?_ | refine Zs rfl (by (conv=>lhs;whnf);try rfl) ?_ | refine A7 rfl rfl rfl rfl (by (conv=>lhs;whnf);try rfl) ?_ | refine B5 rfl rfl (by (conv=>lhs;whnf);try rfl) ?_ | refine Zf ?_ | refine Zl ?_ | refine Zb ?_ | refine CI ?_ | refine DD ?_)
 rw [<- hlb]
 exact KG (Shift.refl _) rfl rfl (DN (lits:=[]) rfl)
·have h0:decide ((0:Int)<(((e2::r2).length:Nat):Int))=true:=Yh (by simp)
 repeat (first | refine Zr rfl (by (conv=>lhs;whnf);try rfl) ?_ | refine A7 rfl rfl rfl rfl (by (conv=>lhs;whnf);try rfl) ?_ | refine Zl ?_ | refine Zb ?_)
 rw [h0]
 repeat (first | (refine LJ rfl rfl rfl rfl (by rw [EF];exact hlt) ?_) | (refine G9 rfl rfl rfl hp rfl ?_) | (refine WX rfl rfl hb rfl ?_) | refine Zr rfl (by (conv=>lhs;whnf);try rfl) ?_ | refine ZJ rfl rfl rfl ?_ | refine Zm rfl rfl ?_ | refine A7 rfl rfl rfl rfl (by (conv=>lhs;whnf);try rfl) ?_ | refine AA rfl rfl ?_ | refine B5 rfl rfl (by (conv=>lhs;whnf);try rfl) ?_ | refine Zf ?_)
 by_cases h2:e1.kind=2
 ·rw [Yh h2]
  repeat (first | (refine Zk rfl rfl ?_) | refine Zs rfl (by (conv=>lhs;whnf);try rfl) ?_ | refine Zf ?_ | refine Zl ?_ | refine Zb ?_ | refine CI ?_ | refine DD ?_)
  rw [show ZQ e r=0 by rw [<- hlb];simp only [ZQ,if_pos h2]]
  exact KG (Shift.refl _) rfl rfl (DN (lits:=[]) rfl)
 ·rw [Yf h2]
  repeat (first | (refine Zv rfl rfl ?_) | (refine LJ rfl rfl rfl rfl (by rw [EF];exact hlt) ?_) | (refine G9 rfl rfl rfl hp rfl ?_) | (refine WX rfl rfl hb rfl ?_) | refine Zr rfl (by (conv=>lhs;whnf);try rfl) ?_ | refine ZJ rfl rfl rfl ?_ | refine Zm rfl rfl ?_ | refine A7 rfl rfl rfl rfl (by (conv=>lhs;whnf);try rfl) ?_ | refine AA rfl rfl ?_ | refine Zf ?_ | refine Zl ?_ | refine Zb ?_ | refine CB ?_ | refine ZH ?_)
  by_cases h3:e1.kind=3
  ·rw [Yh h3]
   repeat (first | (refine Zv rfl rfl ?_) | refine Zr rfl (by (conv=>lhs;whnf);try rfl) ?_ | refine Zs rfl (by (conv=>lhs;whnf);try rfl) ?_ | refine Zf ?_ | refine Zl ?_ | refine Zb ?_ | refine CI ?_ | refine aU ?_ | refine aV ?_)
   rw [show ZQ e r=r2.length+1 by rw [<- hlb];simp only [ZQ,if_neg h2,if_pos h3]]
   exact KG (Shift.refl _) rfl rfl (DN (lits:=[]) rfl)
  ·rw [Yf h3]
   repeat (first | (refine Zk rfl rfl ?_) | (refine EV (a:=r2.length) rfl rfl rfl (by simp at hlt;omega) ?_) | refine Zr rfl (by (conv=>lhs;whnf);try rfl) ?_ | refine Zs rfl (by (conv=>lhs;whnf);try rfl) ?_ | refine Zf ?_ | refine Zb ?_ | refine ZH ?_ | refine ZE ?_)
   refine C6 (e2,r2) 2 ⟨(List.suffix_cons _ _).trans hsuf,?_⟩ (by dsimp only;simp) (NI ⟨rfl,rfl,trivial⟩)
   rw [<- hlb]
   simp only [ZQ,if_neg h2,if_neg h3]}
end
section
open VL
def ok1 (x:El):Prop:=(∀ q,x.args=some q->q.1.length<=1000000)/\x.cur.length<=9223372036854775807
def fits (e:El) (r:Q3 El):Prop:=r.length<=999/\∀ x ∈ e::r,ok1 x
theorem BO {e:El} {r:Q3 El} (h:fits e r):fit e r:=⟨⟨by have:=h.1;omega,(h.2 e (Yi ..)).1⟩,(h.2 e (Yi ..)).2⟩
theorem DF {e e2:El} {r:Q3 El} (h:fits e (e2::r)):fits e2 r:=⟨by have:=h.1;simp at this;omega,fun x hx=>h.2 x (Yg _ hx)⟩
theorem F9 {e e':El} {r:Q3 El} (h:fits e r) (h':fit e' r):fits e' r:=⟨h.1,fun x hx=>by
 rcases Ys.1 hx with rfl | hx
 exact ⟨h'.1.2,h'.2⟩
 exact h.2 x (Yg _ hx)⟩
theorem nQ {r:Q3 El}:∀ {l:Q3 Arg} {e e':El},fit e r->IP e l=some e'->fit e' r
 | [],e,e',hf,h=>by injection h with h;rw [<- h];exact hf
 | a::l,e,e',hf,h=>by
   obtain ⟨e1,h1,h⟩:=Ya.1 h
   exact nQ (nM hf h1) h
theorem WY {e e2 e3:El} {r:Q3 El} (hf:fits e (e2::r)) (h:JL e e2=some e3):fits e3 r:=by{
refine F9 (DF hf) ?_
obtain ⟨a,ha,h⟩:=Ya.1 h
obtain ⟨b,hb,h⟩:=Ya.1 h
split at h
exact nQ (NH (nL (BO (DF hf)) ha) hb) h
cases h}
def FA:Nat->El->Q3 El->Q2 (El×Q3 El) | 0,e,r=>some (e,r) | _+1,_,[]=>none | n+1,e,e2::r=>(JL e e2).bind fun e3=>FA n e3 r
theorem Zl6 {P:Program} [WInv P] {f:FuncId} {args args':Q3 PV} {obs:Q3 (Nat×VObj)} {res:PV} {obs':Q3 (Nat×Gen×VObj)} (hl:args.length=args'.length) (h:∀ (x:Ctx) (i:Nat) (p p':PV) (v:Value),args[i]? = some p->args'[i]? = some p'->Rep x p v->Rep x p' v)
  (hc:ContractG P f args' obs res obs'):ContractG P f args obs res obs':=by
 refine ⟨hc.isGo,fun x vs hp hI=>hc.calls x vs ⟨hl.symm.trans hp.size,fun i p' v hp' hv=>?_,hp.ob,hp.gen,hp.flt⟩ hI⟩
 have hlt:i<args.length:=by rw [hl];exact (Yd.1 hp').1
 exact h x i _ p' v (Yc hlt) hp' (hp.rep i _ v (Yc hlt) hv)
theorem Zzc {x:Ctx} {v:Value} (h:Rep x .nil v):Rep x (.sl []) v:=by
 cases h
 exact .sl [] none 0 0 0 0 0 (fun _ _=>undef) rfl (Yn _) (by omega) (by simp) (by omega) (fun i j e p he=>by simp at he) (fun i j e p he=>by simp at he)
theorem Zya {x:Ctx} {v:Value} {cs cs':Q3 PV} (hl:cs.length=cs'.length) (h:∀ (j:Nat) (q q':PV),cs[j]? = some q->cs'[j]? = some q'->q=q'\/(q = .nil/\q' = .sl [])) (hr:Rep x (.agg cs) v):Rep x (.agg cs') v:=by{
cases hr with
| agg _ vs hl2 hh=>
  refine .agg cs' vs (hl.symm.trans hl2) fun i p' w hp' hw=>?_
  have hlt:i<cs.length:=by rw [hl];exact (Yd.1 hp').1
  have hp:=Yc hlt
  rcases h i _ p' hp hp' with e | ⟨e1,e2⟩
  rw [<- e]
  exact hh i _ w hp hw
  rw [e2]
  have:=hh i _ w hp hw
  rw [e1] at this
  exact Zzc this}
theorem nR {e e':El} {r:Q3 El} {n:Node} {cs:Q3 PV} (hl:cs.length=5) (h:∀ (j:Nat) (q q':PV),cs[j]? = some q->n.cs[j]? = some q'->q=q'\/(q = .nil/\q' = .sl [])) (hc:PC 103 [.agg n.cs] e r (.tup []) e' r):PC 103 [.agg cs] e r (.tup []) e' r:=
 Zl6 (args':=[.ptr 0 (0,0) 0,.agg n.cs]) rfl (fun x i p p' v hp hp' hr=>by
  match i with
  | 0=>
    injection hp with hp
    injection hp' with hp'
    rw [<- hp',hp]
    exact hr
  | 1=>
    injection hp with hp
    injection hp' with hp'
    have hr':Rep x (.agg cs) v:=by rw [hp];exact hr
    rw [<- hp']
    exact Zya (hl.trans rfl) h hr'
  | i+2=>simp at hp) hc
theorem Zyb (e e':El) (r:Q3 El) (k t:Int) (s:Q1) (l:Q3 (Q3 PV)) (hs:small e r) (h:EI e ⟨k,t,s,l,[]⟩=some e'):PC 103 [.agg [.int .i64 k,.int .i64 t,.str s,.sl l,.nil]] e r (.tup []) e' r:=
 nR (n:=⟨k,t,s,l,[]⟩) rfl (fun j q q' hq hq'=>by
  match j with
  | 0=>injection hq with hq;injection hq' with hq';exact .inl (hq.symm.trans hq')
  | 1=>injection hq with hq;injection hq' with hq';exact .inl (hq.symm.trans hq')
  | 2=>injection hq with hq;injection hq' with hq';exact .inl (hq.symm.trans hq')
  | 3=>injection hq with hq;injection hq' with hq';exact .inl (hq.symm.trans hq')
  | 4=>injection hq with hq;injection hq' with hq';exact .inr ⟨hq.symm,hq'.symm⟩
  | j+5=>simp at hq) (KJ e r _ hs e' h)
theorem nS (e e':El) (r:Q3 El) (k t:Int) (s:Q1) (hs:small e r) (h:EI e ⟨k,t,s,[],[]⟩=some e'):PC 103 [.agg [.int .i64 k,.int .i64 t,.str s,.nil,.nil]] e r (.tup []) e' r:=
 nR (n:=⟨k,t,s,[],[]⟩) rfl (fun j q q' hq hq'=>by
  match j with
  | 0=>injection hq with hq;injection hq' with hq';exact .inl (hq.symm.trans hq')
  | 1=>injection hq with hq;injection hq' with hq';exact .inl (hq.symm.trans hq')
  | 2=>injection hq with hq;injection hq' with hq';exact .inl (hq.symm.trans hq')
  | 3=>injection hq with hq;injection hq' with hq';exact .inr ⟨hq.symm,hq'.symm⟩
  | 4=>injection hq with hq;injection hq' with hq';exact .inr ⟨hq.symm,hq'.symm⟩
  | j+5=>simp at hq) (KJ e r _ hs e' h)
theorem eC (k:Int):∀ (e:El) (r:Q3 El),BN k e r<=r.length
 | _,[]=>Yn _
 | e,e2::r=>by
   unfold BN
   split
   simp
   have:=eC k e2 r
   simp
   omega
def KN (k:Int) (s:Q1) (e:El) (r:Q3 El):Q2 (El×Q3 El):=if BN k e r=0 then (AK e s).map fun e'=>(e',r) else (FA (r.length-BN k e r) e r).bind fun q=>match q.2 with | []=>none | e2::r2=>(EI e2 ⟨6,k,⟨#[]⟩,q.1.list,[]⟩).map fun e3=>(e3,r2)
theorem Zr4 (k:Int) (s:Q1) (e e3:El) (r r3:Q3 El) (hf:fits e r) (h:KN k s e r=some (e3,r3)):PC 109 [.int .i64 k,.str s] e r (.tup []) e3 r3:=by{
have hr:=hf.1
have hat:=eC k e r
refine ZG mix Tryz.func109 (by kernel_rfl) rfl (by kernel_rfl) ?_
rw [CV]
repeat (first | (refine CO rfl rfl (EF _ _ _) ?_) | (refine EV rfl rfl rfl (by omega) ?_) | (refine DM (α:=Unit) (c:=.block 0 _) (fun _ _=>mkS [(0,.ptr 0 (0,0) 0),(1,.int .i64 k),(2,.str s),(6,.int .i64 (BN k e r:Int))] (somes (stP νa e r)) 2) (fun _=>True) ?_ (fun a _ _=>?_)) | refine Zr rfl (by (conv=>lhs;whnf);try rfl) ?_ | refine ZJ rfl rfl rfl ?_ | refine Zm rfl rfl ?_ | refine Zs rfl (by (conv=>lhs;whnf);try rfl) ?_ | refine AA rfl rfl ?_ | refine Zf ?_ | refine Zl ?_ | refine Zb ?_ | refine CB ?_)
refine Zu (fun (a:El×Q3 El) _=>mkS [(0,.ptr 0 (0,0) 0),(1,.int .i64 k),(2,.str s),(6,.int .i64 (a.2.length:Int))] (somes (stP νa e r)) 2) (fun a=>(a.1::a.2) <:+ (e::r)/\BN k a.1 a.2=BN k e r) (fun a=>a.2.length) (e,r) 2 ⟨List.suffix_refl _,rfl⟩ (NI ⟨rfl,rfl,rfl,rfl,trivial⟩) (fun a ng hJ=>?_)
obtain ⟨e1,r1⟩:=a
obtain ⟨hsuf,hlb⟩:=hJ
dsimp only at hsuf hlb ⊢
have hlt:r1.length<r.length+1:=by have:=hsuf.length_le;simp at this;omega
obtain ⟨b,c1,c2,hp,hm⟩:=nP (ν:=νa) (NT:=78) (AT:=111) (ET:=98) hsuf
have hb:=DN (lits:=[]) rfl _ _ _ hm
rcases r1 with _ | ⟨e2,r2⟩
·repeat (first | (refine Zw rfl ?_) | (refine Zk rfl rfl ?_) | refine Zr rfl (by (conv=>lhs;whnf);try rfl) ?_ | refine A7 rfl rfl rfl rfl (by (conv=>lhs;whnf);try rfl) ?_ | refine B5 rfl rfl (by (conv=>lhs;whnf);try rfl) ?_ | refine Zf ?_ | refine Zl ?_ | refine Zb ?_ | refine DD ?_ | refine ZE ?_ | refine GQ ?_ | refine MU ?_)
 rw [<- hlb]
 exact LG () 2 trivial (NI ⟨rfl,rfl,rfl,rfl,trivial⟩)
·have h0:decide ((0:Int)<(((e2::r2).length:Nat):Int))=true:=Yh (by simp)
 repeat (first | refine Zr rfl (by (conv=>lhs;whnf);try rfl) ?_ | refine A7 rfl rfl rfl rfl (by (conv=>lhs;whnf);try rfl) ?_ | refine Zl ?_ | refine Zb ?_)
 rw [h0]
 repeat (first | (refine LJ rfl rfl rfl rfl (by rw [EF];exact hlt) ?_) | (refine G9 rfl rfl rfl hp rfl ?_) | (refine WX rfl rfl hb rfl ?_) | refine Zr rfl (by (conv=>lhs;whnf);try rfl) ?_ | refine ZJ rfl rfl rfl ?_ | refine Zm rfl rfl ?_ | refine A7 rfl rfl rfl rfl (by (conv=>lhs;whnf);try rfl) ?_ | refine AA rfl rfl ?_)
 by_cases h2:e1.kind=2
 ·rw [Yh h2]
  repeat (first | (refine LJ rfl rfl rfl rfl (by rw [EF];exact hlt) ?_) | (refine G9 rfl rfl rfl hp rfl ?_) | (refine WX rfl rfl hb rfl ?_) | refine Zr rfl (by (conv=>lhs;whnf);try rfl) ?_ | refine ZJ rfl rfl rfl ?_ | refine Zm rfl rfl ?_ | refine A7 rfl rfl rfl rfl (by (conv=>lhs;whnf);try rfl) ?_ | refine AA rfl rfl ?_ | refine B5 rfl rfl (by (conv=>lhs;whnf);try rfl) ?_ | refine Zf ?_)
  by_cases h3:e1.tag=k
  ·rw [Yh h3]
   repeat (first | (refine Zk rfl rfl ?_) | refine DD ?_ | refine ZE ?_ | refine GQ ?_ | refine MU ?_)
   rw [show BN k e r=r2.length+1 by rw [<- hlb];simp only [BN,if_pos (And.intro h2 h3)]]
   exact LG () 2 trivial (NI ⟨rfl,rfl,rfl,rfl,trivial⟩)
  ·rw [Yf h3]
   repeat (first | (refine Zv rfl rfl ?_) | (refine EV (a:=r2.length) rfl rfl rfl (by simp at hlt;omega) ?_) | refine Zr rfl (by (conv=>lhs;whnf);try rfl) ?_ | refine Zs rfl (by (conv=>lhs;whnf);try rfl) ?_ | refine Zf ?_ | refine Zb ?_ | refine CB ?_ | refine ZH ?_ | refine ZE ?_ | refine BR ?_)
   refine C6 (e2,r2) 2 ⟨(List.suffix_cons _ _).trans hsuf,?_⟩ (by dsimp only;simp) (NI ⟨rfl,rfl,rfl,rfl,trivial⟩)
   rw [<- hlb]
   simp only [BN,if_neg (fun h:e1.kind=2/\e1.tag=k=>h3 h.2)]
 ·rw [Yf h2]
  repeat (first | (refine Zw rfl ?_) | (refine Zv rfl rfl ?_) | (refine EV (a:=r2.length) rfl rfl rfl (by simp at hlt;omega) ?_) | refine Zr rfl (by (conv=>lhs;whnf);try rfl) ?_ | refine Zs rfl (by (conv=>lhs;whnf);try rfl) ?_ | refine B5 rfl rfl (by (conv=>lhs;whnf);try rfl) ?_ | refine Zf ?_ | refine Zb ?_ | refine CB ?_ | refine ZH ?_ | refine ZE ?_ | refine BR ?_)
  refine C6 (e2,r2) 2 ⟨(List.suffix_cons _ _).trans hsuf,?_⟩ (by dsimp only;simp) (NI ⟨rfl,rfl,rfl,rfl,trivial⟩)
  rw [<- hlb]
  simp only [BN,if_neg (fun h:e1.kind=2/\e1.tag=k=>h2 h.1)]
unfold KN at h
by_cases h0:BN k e r=0
·rw [if_pos h0] at h
 obtain ⟨e',he',h⟩:=Ye.1 h
 injection h with q1 q2
 subst q1 q2
 repeat (first | refine Zr rfl (by (conv=>lhs;whnf);try rfl) ?_ | refine A7 rfl rfl rfl rfl (by (conv=>lhs;whnf);try rfl) ?_ | refine Zf ?_ | refine Zl ?_ | refine Zb ?_)
 rw [show decide (((BN k e r:Nat):Int)=0)=true from Yh (by omega)]
 repeat (first | (refine Zv rfl rfl ?_) | (refine ZC [] νa (CP e r s (BO hf).1 (BO hf).2 e' he') rfl rfl rfl rfl rfl rfl ?_) | refine Zr rfl (by (conv=>lhs;whnf);try rfl) ?_ | refine Zf ?_ | refine Zl ?_ | refine Zb ?_ | refine CI ?_)
 exact BX (.inl rfl) (νc 3 2) [] [] rfl rfl trivial rfl rfl
·rw [if_neg h0] at h
 obtain ⟨⟨e4,r4⟩,hfl,h⟩:=Ya.1 h
 rcases r4 with _ | ⟨e5,r5⟩
 cases h
 obtain ⟨e6,he6,h⟩:=Ye.1 h
 injection h with q1 q2
 subst q1 q2
 repeat (first | refine Zr rfl (by (conv=>lhs;whnf);try rfl) ?_ | refine A7 rfl rfl rfl rfl (by (conv=>lhs;whnf);try rfl) ?_ | refine Zf ?_ | refine Zl ?_ | refine Zb ?_)
 rw [show decide (((BN k e r:Nat):Int)=0)=false from Yf (by omega)]
 repeat (first | (refine Zk rfl rfl ?_) | refine Zl ?_ | refine CB ?_ | refine ZH ?_)
 generalize BN k e r=at_ at hat h0 hfl ⊢
 refine Zu (fun (a:El×Q3 El) _=>mkS [(0,.ptr 0 (0,0) 0),(1,.int .i64 k),(6,.int .i64 (at_:Int))] (somes (stP νb a.1 a.2)) 2) (fun a=>fits a.1 a.2/\at_<=a.2.length/\FA (a.2.length-at_) a.1 a.2=some (e4,e5::r5)) (fun a=>a.2.length) (e,r) 2 ⟨hf,hat,hfl⟩
  (C8 νa [] (fun k=>(k,νa k)) (fun _ _=>rfl) rfl ⟨rfl,rfl,rfl,trivial⟩ (x:=[]) (x':=[]) rfl rfl rfl (AO _) rfl) (fun a ng hJ=>?_)
 obtain ⟨e1,r1⟩:=a
 obtain ⟨hf1,hle,hft⟩:=hJ
 dsimp only at hf1 hle hft ⊢
 have hr1:=hf1.1
 repeat (first | (refine CO rfl rfl (EF _ _ _) ?_) | refine Zr rfl (by (conv=>lhs;whnf);try rfl) ?_ | refine ZJ rfl rfl rfl ?_ | refine Zm rfl rfl ?_ | refine MX rfl rfl (by omega) ?_ | refine A7 rfl rfl rfl rfl (by (conv=>lhs;whnf);try rfl) ?_ | refine AA rfl rfl ?_ | refine Zf ?_ | refine Zl ?_ | refine Zb ?_)
 by_cases hgt:at_<r1.length
 ·rw [show decide (((at_+1:Nat):Int)<((r1.length+1:Nat):Int))=true from Yh (by omega)]
  rcases r1 with _ | ⟨e2,r2⟩
  simp at hgt
  simp only [Yr] at hgt hle hft hr1
  rw [show r2.length+1-at_=(r2.length-at_)+1 by omega] at hft
  obtain ⟨e7,he7,hft⟩:=Ya.1 hft
  repeat (first | (refine Zv rfl rfl ?_) | (refine ZC [] νb (eB e1 e2 e7 r2 (by omega) (BO (DF hf1)) he7) rfl rfl rfl rfl rfl rfl ?_) | refine Zr rfl (by (conv=>lhs;whnf);try rfl) ?_ | refine Zf ?_ | refine Zb ?_ | refine CB ?_ | refine ZH ?_ | refine ZE ?_ | refine BR ?_)
  exact C6 (e7,r2) 2 ⟨WY hf1 he7,by dsimp only;omega,hft⟩ (by dsimp only;simp) (C8 (νc 3 1) [] (fun k=>(k,νc 3 1 k)) (fun _ _=>rfl) rfl ⟨rfl,rfl,rfl,trivial⟩ (x:=[]) (x':=[]) rfl rfl rfl (AO _) rfl)
 ·rw [show decide (((at_+1:Nat):Int)<((r1.length+1:Nat):Int))=false from Yf (by omega)]
  rw [show r1.length-at_=0 by omega] at hft
  injection hft with hft
  injection hft with q1 q2
  subst q1 q2
  repeat (first | (refine Zk rfl rfl ?_) | refine Zr rfl (by (conv=>lhs;whnf);try rfl) ?_ | refine Zl ?_ | refine Zb ?_ | refine DD ?_)
  refine QB [] νb (Q8 e1 e5 r5 (by simp at hr1;omega)) rfl rfl rfl rfl ?_
  iterate 2 (refine C5 ?_)
  refine CX (dX (3,1+1000000 * (1000+1)) νb (tm':=[(0,.ptr 0 (0,0) 0),(1,.int .i64 k),(7,.ptr 300 (1,300) 0)]) ⟨rfl,rfl,rfl,trivial⟩) ?_ (D3 _ _)
  repeat (first | (refine ZC [_] νb (Zyb e5 e6 r5 6 k ⟨#[]⟩ e1.list (BO (DF hf1)).1 he6) rfl rfl rfl rfl rfl rfl ?_) | refine Zr rfl (by (conv=>lhs;whnf);try rfl) ?_ | refine ZJ rfl rfl rfl ?_ | refine Zm rfl rfl ?_ | refine AA rfl rfl ?_ | refine D4 rfl rfl ?_ | refine Zf ?_ | refine Zb ?_ | refine ZE ?_)
  exact BX (.inr rfl) (νc 2 7) [_] [] rfl rfl trivial rfl rfl}
def BG (c count:Int):Int:=if 3<=c/\3<=count then 3 else 2
def DS (c:Int) (e:El):Node:=⟨if 3<=c/\3<=e.count then 5 else 4,0,⟨#[]⟩,e.list,e.argL.map Arg.cs⟩
def M7 (c:Int) (e:El) (r:Q3 El):Q2 (El×Q3 El):=(strings_Repeat ⟨#[125]⟩ c).bind fun s=>(AK e s).map fun e'=>(e',r)
def QD (e2:El) (m:Int) (n:Node):Q2 El:=((if m=1 then AK e2 ⟨#[123]⟩ else some e2):Q2 El).bind fun e3=>EI e3 n
def FW:Nat->Int->El->Q3 El->Q2 (El×Q3 El)
 | 0,_,_,_=>none
 | f+1,c,e,r=>if 2<=c then (if ZQ e r=0 then M7 c e r else
   (FA (r.length-ZQ e r) e r).bind fun q=>if c<=9223372036854775807/\0<=q.1.count/\q.1.count<=9223372036854775807 then
    (if 2<=q.1.count-BG c q.1.count then FW f (c-BG c q.1.count) ⟨q.1.kind,q.1.tag,q.1.count-BG c q.1.count,[(DS c q.1).cs],none⟩ q.2
     else match q.2 with
      | []=>none
      | e2::r2=>(QD e2 (q.1.count-BG c q.1.count) (DS c q.1)).bind fun e4=>FW f (c-BG c q.1.count) e4 r2) else none)
   else M7 c e r
theorem WZ {e2 e4:El} {m:Int} {n:Node} {r:Q3 El} (hf:fit e2 r) (h:QD e2 m n=some e4):fit e4 r:=by{
obtain ⟨e3,h3,h⟩:=Ya.1 h
refine QA ?_ h
split at h3
exact CF hf h3
injection h3 with h3
rw [<- h3]
exact hf}
theorem X0:∀ {n:Nat} {e e':El} {r r':Q3 El},fits e r->FA n e r=some (e',r')->fits e' r'
 | 0,e,e',r,r',hf,h=>by injection h with h;injection h with h1 h2;rw [<- h1,<- h2];exact hf
 | n+1,e,e',[],r',hf,h=>by cases h
 | n+1,e,e',e2::r,r',hf,h=>by
   obtain ⟨e3,h3,h⟩:=Ya.1 h
   exact X0 (WY hf h3) h
theorem eD:∀ (e:El) (r:Q3 El),ZQ e r<=r.length
 | _,[]=>Yn _
 | e,e2::r=>by
   unfold ZQ
   split
   simp
   split
   simp
   have:=eD e2 r
   simp
   omega
theorem eE (b:Nat) (ν:Nat->Gen) (pre:Q3 Arg) (a:Arg):(EY b ν (some (pre,a))).set pre.length (AN [.bool a.named,.sl a.name,.row (b+3) (ν (b+3))] 2 [.sl a.value])=(pre ++ [a]).map Arg.cs:=by
 have:=Q7 b ν pre a a.cs
 rw [YR]
 exact this
theorem ZnM (f:Nat) (c:Int) (e e9:El) (r r9:Q3 El) (hf:fits e r) (h:FW f c e r=some (e9,r9)):PC 110 [.int .i64 c] e r (.tup []) e9 r9:=by{
refine ZG mix Tryz.func110 (by kernel_rfl) rfl (by kernel_rfl) ?_
rw [CV]
repeat (first | refine Zl ?_ | refine CB ?_)
refine Zu (fun (a:Nat×Int×El×Q3 El) _=>mkS [(0,.ptr 0 (0,0) 0),(1,.int .i64 a.2.1)] (somes (stP νb a.2.2.1 a.2.2.2)) 2) (fun a=>fits a.2.2.1 a.2.2.2/\FW a.1 a.2.1 a.2.2.1 a.2.2.2=some (e9,r9)) (fun a=>a.1) (f,c,e,r) 2 ⟨hf,h⟩
 (C8 νa [] (fun k=>(k,νa k)) (fun _ _=>rfl) rfl ⟨rfl,rfl,trivial⟩ (x:=[]) (x':=[]) rfl rfl rfl (AO _) rfl) (fun a ng hJ=>?_)
clear h hf
obtain ⟨f,c,e,r⟩:=a
obtain ⟨hf,h⟩:=hJ
dsimp only at hf h ⊢
rcases f with _ | f
cases h
have hr:=hf.1
unfold FW at h
repeat (first | refine Zr rfl (by (conv=>lhs;whnf);try rfl) ?_ | refine A7 rfl rfl rfl rfl (by (conv=>lhs;whnf);try rfl) ?_ | refine Zf ?_ | refine Zl ?_ | refine Zb ?_)
by_cases hc2:2<=c
rotate_left
·rw [if_neg hc2] at h
 obtain ⟨s,hs,h⟩:=Ya.1 h
 obtain ⟨e',he',h⟩:=Ye.1 h
 injection h with q1 q2
 subst q1 q2
 rw [Yf hc2]
 repeat (first | (refine Zk rfl rfl ?_) | (refine DW (cV _ _ _ hs) rfl rfl ?_) | (refine ZC [] νb (CP e r s (BO hf).1 (BO hf).2 e' he') rfl rfl rfl rfl rfl rfl ?_) | refine Zr rfl (by (conv=>lhs;whnf);try rfl) ?_ | refine Zf ?_ | refine Zb ?_ | refine DD ?_ | refine ZE ?_)
 exact BX (.inr rfl) (νc 3 3) [] [] rfl rfl trivial rfl rfl
rw [if_pos hc2] at h
rw [Yh hc2]
have hat:=eD e r
have hlb:=Zpi e r (by omega)
generalize ZQ e r=at_ at hat h hlb
repeat (first | (refine Zv rfl rfl ?_) | (refine C9 [] νb hlb rfl rfl rfl rfl rfl rfl ?_) | refine Zr rfl (by (conv=>lhs;whnf);try rfl) ?_ | refine Zs rfl (by (conv=>lhs;whnf);try rfl) ?_ | refine A7 rfl rfl rfl rfl (by (conv=>lhs;whnf);try rfl) ?_ | refine Zf ?_ | refine Zl ?_ | refine Zb ?_ | refine CB ?_ | refine ZH ?_)
by_cases h0:at_=0
·rw [if_pos h0] at h
 obtain ⟨s,hs,h⟩:=Ya.1 h
 obtain ⟨e',he',h⟩:=Ye.1 h
 injection h with q1 q2
 subst q1 q2
 rw [show decide ((at_:Int)=0)=true from Yh (by omega)]
 repeat (first | (refine Zv rfl rfl ?_) | (refine DW (cV _ _ _ hs) rfl rfl ?_) | (refine ZC [] νb (CP e r s (BO hf).1 (BO hf).2 e' he') rfl rfl rfl rfl rfl rfl ?_) | refine Zr rfl (by (conv=>lhs;whnf);try rfl) ?_ | refine Zf ?_ | refine Zb ?_ | refine DD ?_ | refine ZE ?_)
 exact BX (.inr rfl) (νc 5 3) [] [] rfl rfl trivial rfl rfl
rw [if_neg h0] at h
obtain ⟨⟨e1,r1⟩,hfl,h⟩:=Ya.1 h
have hf1:=X0 hf hfl
rw [show decide ((at_:Int)=0)=false from Yf (by omega)]
repeat (first | (refine Zk rfl rfl ?_) | (refine DM (α:=Unit) (c:=.block 2 _) (fun _ _=>mkS [(0,.ptr 0 (0,0) 0),(1,.int .i64 c)] (somes (stP νb e1 r1)) 2) (fun _=>True) ?_ (fun a _ _=>?_)) | refine Zl ?_ | refine CB ?_ | refine ZH ?_)
·refine Zu (fun (a:El×Q3 El) _=>mkS [(0,.ptr 0 (0,0) 0),(1,.int .i64 c),(4,.int .i64 (at_:Int))] (somes (stP νb a.1 a.2)) 2) (fun a=>fits a.1 a.2/\at_<=a.2.length/\FA (a.2.length-at_) a.1 a.2=some (e1,r1)) (fun a=>a.2.length) (e,r) 2 ⟨hf,hat,hfl⟩
  (C8 νb [] (fun k=>(k,νb k)) (fun _ _=>rfl) rfl ⟨rfl,rfl,rfl,trivial⟩ (x:=[]) (x':=[]) rfl rfl rfl (AO _) rfl) (fun a ng hJ=>?_)
 obtain ⟨e5,r5⟩:=a
 obtain ⟨hf5,hle,hft⟩:=hJ
 dsimp only at hf5 hle hft ⊢
 have hr5:=hf5.1
 repeat (first | (refine CO rfl rfl (EF _ _ _) ?_) | refine Zr rfl (by (conv=>lhs;whnf);try rfl) ?_ | refine ZJ rfl rfl rfl ?_ | refine Zm rfl rfl ?_ | refine MX rfl rfl (by omega) ?_ | refine A7 rfl rfl rfl rfl (by (conv=>lhs;whnf);try rfl) ?_ | refine AA rfl rfl ?_ | refine Zf ?_ | refine Zl ?_ | refine Zb ?_)
 by_cases hgt:at_<r5.length
 ·rw [show decide (((at_+1:Nat):Int)<((r5.length+1:Nat):Int))=true from Yh (by omega)]
  rcases r5 with _ | ⟨e2,r2⟩
  simp at hgt
  simp only [Yr] at hgt hle hft hr5
  rw [show r2.length+1-at_=(r2.length-at_)+1 by omega] at hft
  obtain ⟨e7,he7,hft⟩:=Ya.1 hft
  repeat (first | (refine Zv rfl rfl ?_) | (refine ZC [] νb (eB e5 e2 e7 r2 (by omega) (BO (DF hf5)) he7) rfl rfl rfl rfl rfl rfl ?_) | refine Zr rfl (by (conv=>lhs;whnf);try rfl) ?_ | refine Zf ?_ | refine Zb ?_ | refine CB ?_ | refine ZH ?_ | refine ZE ?_ | refine BR ?_)
  exact C6 (e7,r2) 2 ⟨WY hf5 he7,by dsimp only;omega,hft⟩ (by dsimp only;simp) (C8 (νc 3 1) [] (fun k=>(k,νc 3 1 k)) (fun _ _=>rfl) rfl ⟨rfl,rfl,rfl,trivial⟩ (x:=[]) (x':=[]) rfl rfl rfl (AO _) rfl)
 ·rw [show decide (((at_+1:Nat):Int)<((r5.length+1:Nat):Int))=false from Yf (by omega)]
  rw [show r5.length-at_=0 by omega] at hft
  injection hft with hft
  injection hft with q1 q2
  subst q1 q2
  repeat (first | (refine Zk rfl rfl ?_) | refine DD ?_ | refine ZE ?_ | refine GQ ?_ | refine MU ?_)
  exact LG () 2 trivial (C8 νb [] (fun k=>(k,νb k)) (fun _ _=>rfl) rfl ⟨rfl,rfl,trivial⟩ (x:=[]) (x':=[]) rfl rfl rfl (AO _) rfl)
·split at h
 rotate_left
 cases h
 rename_i hb
 obtain ⟨hb1,hb2,hb3⟩:=hb
 clear hfl hat hlb h0 hf hr
 obtain ⟨kind,tag,count,list,args⟩:=e1
 dsimp only at hb2 hb3 h
 have hr1:=hf1.1
 repeat (first | (refine C9 [] νb (CE _ r1 (by omega)) rfl rfl rfl rfl rfl rfl ?_) | refine Zr rfl (by (conv=>lhs;whnf);try rfl) ?_ | refine Zs rfl (by (conv=>lhs;whnf);try rfl) ?_ | refine A7 rfl rfl rfl rfl (by (conv=>lhs;whnf);try rfl) ?_ | refine Zf ?_ | refine Zl ?_ | refine Zb ?_)
 by_cases hk1:3<=c
 by_cases hk2:3<=count
 ·have hK:BG c count=3:=if_pos ⟨hk1,hk2⟩
  have hN:DS c ⟨kind,tag,count,list,args⟩=⟨5,0,⟨#[]⟩,list,(El.argL ⟨kind,tag,count,list,args⟩).map Arg.cs⟩:=by unfold DS;rw [if_pos ⟨hk1,hk2⟩]
  rw [hK,hN] at h
  rw [Yh hk1]
  repeat (first | refine Zr rfl (by (conv=>lhs;whnf);try rfl) ?_ | refine ZJ rfl rfl rfl ?_ | refine Zm rfl rfl ?_ | refine A7 rfl rfl rfl rfl (by (conv=>lhs;whnf);try rfl) ?_ | refine AA rfl rfl ?_ | refine B5 rfl rfl (by (conv=>lhs;whnf);try rfl) ?_ | refine Zf ?_)
  rw [Yh hk2]
  repeat (first | (refine Zv rfl rfl ?_) | (refine K4 (a:=c) (b:=3) rfl rfl rfl (by omega) (by omega) ?_) | (refine K4 (a:=count) (b:=3) rfl rfl rfl (by omega) (by omega) ?_) | refine Zr rfl (by (conv=>lhs;whnf);try rfl) ?_ | refine ZJ rfl rfl rfl ?_ | refine Zm rfl rfl ?_ | refine Zs rfl (by (conv=>lhs;whnf);try rfl) ?_ | refine A7 rfl rfl rfl rfl (by (conv=>lhs;whnf);try rfl) ?_ | refine AA rfl rfl ?_ | refine GR rfl rfl ?_ | refine BS rfl rfl rfl (by (conv=>lhs;whnf);try rfl) (by (conv=>lhs;whnf);try rfl) (by rfl) (by rfl) (Yk rfl) (by (conv=>lhs;whnf);try rfl) ?_ | refine D4 rfl rfl ?_ | refine Zf ?_ | refine EU (by kernel_rfl) ?_ | refine Zl ?_ | refine Zb ?_)
  by_cases hm:2<=count-3
  rw [if_pos hm] at h
  rw [Yh hm]
  refine Zv rfl rfl ?_
  have hfn:fits ⟨kind,tag,count-3,[Node.cs ⟨5,0,⟨#[]⟩,list,(El.argL ⟨kind,tag,count,list,args⟩).map Arg.cs⟩],none⟩ r1:=F9 hf1 ⟨⟨by omega,fun q hq=>by cases hq⟩,by show 1<=9223372036854775807;omega⟩
  rcases args with _ | ⟨pre,a⟩
  ·refine CX (M5 (b:=1001) (u:=8) (by omega) rfl rfl rfl (fun e he=>absurd he L3)) ?_ (D3 _ _)
   repeat (first | refine Zr rfl (by (conv=>lhs;whnf);try rfl) ?_ | refine ZJ rfl rfl rfl ?_ | refine Zm rfl rfl ?_ | refine AA rfl rfl ?_ | refine BS rfl rfl rfl (by (conv=>lhs;whnf);try rfl) (by (conv=>lhs;whnf);try rfl) (by rfl) (by rfl) (Yk rfl) (by (conv=>lhs;whnf);try rfl) ?_ | refine E9 rfl rfl rfl (by rfl) (by decide) (by (conv=>lhs;whnf);try rfl) ?_ | refine Zf ?_ | refine Zl ?_ | refine Zb ?_ | refine DD ?_ | refine ZE ?_ | refine GQ ?_)
   exact C6 (f,c-3,⟨kind,tag,count-3,[Node.cs ⟨5,0,⟨#[]⟩,list,[]⟩],none⟩,r1) 2 ⟨hfn,h⟩ (EK _) (Shift.trans (HH 1001 66 4 111 3 rfl rfl rfl) (Shift.trans (LI (t:=66) rfl) (QC (10,3) (11,0) 65 66 νb rfl ⟨rfl,rfl,trivial⟩ rfl rfl rfl rfl rfl rfl (GX (A:=[_,_,_,_,_,_,_,_,_,_,_,_,_]) rfl))))
  ·refine CX (KH 1003 pre.length 2 rfl (EH _ _ _ _) rfl (KL rfl) (eE _ _ _ _)) ?_ (D3 _ _)
   refine CX (M5 (b:=1001) (u:=8) (by omega) rfl rfl rfl TE) ?_ (D3 _ _)
   repeat (first | refine Zr rfl (by (conv=>lhs;whnf);try rfl) ?_ | refine ZJ rfl rfl rfl ?_ | refine Zm rfl rfl ?_ | refine AA rfl rfl ?_ | refine BS rfl rfl rfl (by (conv=>lhs;whnf);try rfl) (by (conv=>lhs;whnf);try rfl) (by rfl) (by rfl) (Yk rfl) (by (conv=>lhs;whnf);try rfl) ?_ | refine E9 rfl rfl rfl (by rfl) (by decide) (by (conv=>lhs;whnf);try rfl) ?_ | refine Zf ?_ | refine Zl ?_ | refine Zb ?_ | refine DD ?_ | refine ZE ?_ | refine GQ ?_)
   exact C6 (f,c-3,⟨kind,tag,count-3,[Node.cs ⟨5,0,⟨#[]⟩,list,(pre ++ [a]).map Arg.cs⟩],none⟩,r1) 2 ⟨hfn,h⟩ (EK _) (Shift.trans (HH 1001 66 4 111 3 rfl rfl rfl) (Shift.trans (LI (t:=66) rfl) (QC (10,3) (11,0) 65 66 νb rfl ⟨rfl,rfl,trivial⟩ rfl rfl rfl rfl rfl rfl (GX (A:=[_,_,_,_,_,_,_,_,_,_,_,_,_,_,_]) rfl))))
  ·rw [if_neg hm] at h
   rcases r1 with _ | ⟨e2,r2⟩
   cases h
   obtain ⟨e4,he4,h⟩:=Ya.1 h
   have hf2:=BO (DF hf1)
   have hf4:=F9 (DF hf1) (WZ hf2 he4)
   rw [Yf hm]
   refine Zk rfl rfl ?_
   refine CX (Shift.trans (dY (lits:=[_,_]) (m:=count-3) rfl) (C8 νb [_,_] (fun k=>if k=8 then (8,(6,10)) else (k,νb k)) (fun k hk=>if_neg (by omega)) rfl (tm':=[(0,.ptr 0 (0,0) 0),(1,.int .i64 (c-3)),(5,.ptr 1001 (1,1001) 0),(8,.ptr 8 (1,8) 0)]) ⟨rfl,rfl,rfl,rfl,trivial⟩ (x:=[(8,(6,10),.box [.int .i64 5,.int .i64 0,.str ⟨#[]⟩,.row 1002 (νb 1002),.row 1003 (νb 1003)])]) (x':=[(8,νb 8,.box [.int .i64 5,.int .i64 0,.str ⟨#[]⟩,.row 1002 (νb 1002),.row 1003 (νb 1003)])]) rfl rfl rfl (Zp rfl (AO _)) rfl)) ?_ (D3 _ _)
   repeat (first | refine Zr rfl (by (conv=>lhs;whnf);try rfl) ?_ | refine Zl ?_ | refine Zb ?_ | refine ZH ?_)
   refine QB [_] νb (Q8 ⟨kind,tag,count-3,list,args⟩ e2 r2 (by simp at hr1;omega)) rfl rfl rfl rfl ?_
   refine C5 ?_
   refine CX (dZ (2,1+1000000 * (1000+1)) (1,8) νb (tm':=[(0,.ptr 0 (0,0) 0),(1,.int .i64 (c-3)),(5,.ptr 300 (1,300) 0),(8,.ptr 8 (1,8) 0)]) ⟨rfl,rfl,rfl,rfl,trivial⟩) ?_ (D3 _ _)
   repeat (first | refine Zr rfl (by (conv=>lhs;whnf);try rfl) ?_ | refine ZJ rfl rfl rfl ?_ | refine Zm rfl rfl ?_ | refine A7 rfl rfl rfl rfl (by (conv=>lhs;whnf);try rfl) ?_ | refine AA rfl rfl ?_ | refine Zf ?_ | refine Zl ?_ | refine Zb ?_)
   obtain ⟨e3,h3,he4⟩:=Ya.1 he4
   by_cases h1:count-3=1
   ·rw [if_pos h1] at h3
    rw [Yh h1]
    have hf3:=CF hf2 h3
    repeat (first | (refine Zv rfl rfl ?_) | (refine ZC [_,_] νb (CP e2 r2 _ hf2.1 hf2.2 e3 h3) rfl rfl rfl rfl rfl rfl ?_) | (refine ZC [_,_] (νc _ _) (KJ e3 r2 _ hf3.1 e4 he4) rfl rfl rfl rfl rfl rfl ?_) | refine Zr rfl (by (conv=>lhs;whnf);try rfl) ?_ | refine ZJ rfl rfl rfl ?_ | refine Zf ?_ | refine Zb ?_ | refine ZE ?_ | refine BR ?_)
    exact C6 (f,c-3,e4,r2) 2 ⟨hf4,h⟩ (EK _) (C8 (νc 4 2) [_,_] (fun k=>(k,νc 4 2 k)) (fun _ _=>rfl) rfl ⟨rfl,rfl,trivial⟩ (x:=[]) (x':=[]) rfl rfl rfl (AO _) rfl)
   ·rw [if_neg h1] at h3
    injection h3 with h3
    subst h3
    rw [Yf h1]
    repeat (first | (refine Zk rfl rfl ?_) | (refine ZC [_,_] νb (KJ e2 r2 _ hf2.1 e4 he4) rfl rfl rfl rfl rfl rfl ?_) | refine Zr rfl (by (conv=>lhs;whnf);try rfl) ?_ | refine ZJ rfl rfl rfl ?_ | refine Zf ?_ | refine Zb ?_ | refine ZH ?_ | refine ZE ?_ | refine BR ?_)
    exact C6 (f,c-3,e4,r2) 2 ⟨hf4,h⟩ (EK _) (C8 (νc 3 2) [_,_] (fun k=>(k,νc 3 2 k)) (fun _ _=>rfl) rfl ⟨rfl,rfl,trivial⟩ (x:=[]) (x':=[]) rfl rfl rfl (AO _) rfl)
 ·have hK:BG c count=2:=if_neg (fun h=>hk2 h.2)
  have hN:DS c ⟨kind,tag,count,list,args⟩=⟨4,0,⟨#[]⟩,list,(El.argL ⟨kind,tag,count,list,args⟩).map Arg.cs⟩:=by unfold DS;rw [if_neg (fun h=>hk2 h.2)]
  rw [hK,hN] at h
  rw [Yh hk1]
  repeat (first | refine Zr rfl (by (conv=>lhs;whnf);try rfl) ?_ | refine ZJ rfl rfl rfl ?_ | refine Zm rfl rfl ?_ | refine A7 rfl rfl rfl rfl (by (conv=>lhs;whnf);try rfl) ?_ | refine AA rfl rfl ?_ | refine B5 rfl rfl (by (conv=>lhs;whnf);try rfl) ?_ | refine Zf ?_)
  rw [Yf hk2]
  repeat (first | (refine Zk rfl rfl ?_) | (refine K4 (a:=c) (b:=2) rfl rfl rfl (by omega) (by omega) ?_) | (refine K4 (a:=count) (b:=2) rfl rfl rfl (by omega) (by omega) ?_) | refine Zr rfl (by (conv=>lhs;whnf);try rfl) ?_ | refine ZJ rfl rfl rfl ?_ | refine Zm rfl rfl ?_ | refine Zs rfl (by (conv=>lhs;whnf);try rfl) ?_ | refine A7 rfl rfl rfl rfl (by (conv=>lhs;whnf);try rfl) ?_ | refine AA rfl rfl ?_ | refine GR rfl rfl ?_ | refine BS rfl rfl rfl (by (conv=>lhs;whnf);try rfl) (by (conv=>lhs;whnf);try rfl) (by rfl) (by rfl) (Yk rfl) (by (conv=>lhs;whnf);try rfl) ?_ | refine D4 rfl rfl ?_ | refine Zf ?_ | refine EU (by kernel_rfl) ?_ | refine Zl ?_ | refine Zb ?_ | refine ZH ?_)
  by_cases hm:2<=count-2
  rw [if_pos hm] at h
  rw [Yh hm]
  refine Zv rfl rfl ?_
  have hfn:fits ⟨kind,tag,count-2,[Node.cs ⟨4,0,⟨#[]⟩,list,(El.argL ⟨kind,tag,count,list,args⟩).map Arg.cs⟩],none⟩ r1:=F9 hf1 ⟨⟨by omega,fun q hq=>by cases hq⟩,by show 1<=9223372036854775807;omega⟩
  rcases args with _ | ⟨pre,a⟩
  ·refine CX (M5 (b:=1001) (u:=8) (by omega) rfl rfl rfl (fun e he=>absurd he L3)) ?_ (D3 _ _)
   repeat (first | refine Zr rfl (by (conv=>lhs;whnf);try rfl) ?_ | refine ZJ rfl rfl rfl ?_ | refine Zm rfl rfl ?_ | refine AA rfl rfl ?_ | refine BS rfl rfl rfl (by (conv=>lhs;whnf);try rfl) (by (conv=>lhs;whnf);try rfl) (by rfl) (by rfl) (Yk rfl) (by (conv=>lhs;whnf);try rfl) ?_ | refine E9 rfl rfl rfl (by rfl) (by decide) (by (conv=>lhs;whnf);try rfl) ?_ | refine Zf ?_ | refine Zl ?_ | refine Zb ?_ | refine DD ?_ | refine ZE ?_ | refine GQ ?_)
   exact C6 (f,c-2,⟨kind,tag,count-2,[Node.cs ⟨4,0,⟨#[]⟩,list,[]⟩],none⟩,r1) 2 ⟨hfn,h⟩ (EK _) (Shift.trans (HH 1001 66 4 111 3 rfl rfl rfl) (Shift.trans (LI (t:=66) rfl) (QC (9,3) (10,0) 65 66 νb rfl ⟨rfl,rfl,trivial⟩ rfl rfl rfl rfl rfl rfl (GX (A:=[_,_,_,_,_,_,_,_,_,_,_,_,_]) rfl))))
  ·refine CX (KH 1003 pre.length 2 rfl (EH _ _ _ _) rfl (KL rfl) (eE _ _ _ _)) ?_ (D3 _ _)
   refine CX (M5 (b:=1001) (u:=8) (by omega) rfl rfl rfl TE) ?_ (D3 _ _)
   repeat (first | refine Zr rfl (by (conv=>lhs;whnf);try rfl) ?_ | refine ZJ rfl rfl rfl ?_ | refine Zm rfl rfl ?_ | refine AA rfl rfl ?_ | refine BS rfl rfl rfl (by (conv=>lhs;whnf);try rfl) (by (conv=>lhs;whnf);try rfl) (by rfl) (by rfl) (Yk rfl) (by (conv=>lhs;whnf);try rfl) ?_ | refine E9 rfl rfl rfl (by rfl) (by decide) (by (conv=>lhs;whnf);try rfl) ?_ | refine Zf ?_ | refine Zl ?_ | refine Zb ?_ | refine DD ?_ | refine ZE ?_ | refine GQ ?_)
   exact C6 (f,c-2,⟨kind,tag,count-2,[Node.cs ⟨4,0,⟨#[]⟩,list,(pre ++ [a]).map Arg.cs⟩],none⟩,r1) 2 ⟨hfn,h⟩ (EK _) (Shift.trans (HH 1001 66 4 111 3 rfl rfl rfl) (Shift.trans (LI (t:=66) rfl) (QC (9,3) (10,0) 65 66 νb rfl ⟨rfl,rfl,trivial⟩ rfl rfl rfl rfl rfl rfl (GX (A:=[_,_,_,_,_,_,_,_,_,_,_,_,_,_,_]) rfl))))
  ·rw [if_neg hm] at h
   rcases r1 with _ | ⟨e2,r2⟩
   cases h
   obtain ⟨e4,he4,h⟩:=Ya.1 h
   have hf2:=BO (DF hf1)
   have hf4:=F9 (DF hf1) (WZ hf2 he4)
   rw [Yf hm]
   refine Zk rfl rfl ?_
   refine CX (Shift.trans (dY (lits:=[_,_]) (m:=count-2) rfl) (C8 νb [_,_] (fun k=>if k=8 then (8,(5,10)) else (k,νb k)) (fun k hk=>if_neg (by omega)) rfl (tm':=[(0,.ptr 0 (0,0) 0),(1,.int .i64 (c-2)),(5,.ptr 1001 (1,1001) 0),(8,.ptr 8 (1,8) 0)]) ⟨rfl,rfl,rfl,rfl,trivial⟩ (x:=[(8,(5,10),.box [.int .i64 4,.int .i64 0,.str ⟨#[]⟩,.row 1002 (νb 1002),.row 1003 (νb 1003)])]) (x':=[(8,νb 8,.box [.int .i64 4,.int .i64 0,.str ⟨#[]⟩,.row 1002 (νb 1002),.row 1003 (νb 1003)])]) rfl rfl rfl (Zp rfl (AO _)) rfl)) ?_ (D3 _ _)
   repeat (first | refine Zr rfl (by (conv=>lhs;whnf);try rfl) ?_ | refine Zl ?_ | refine Zb ?_ | refine ZH ?_)
   refine QB [_] νb (Q8 ⟨kind,tag,count-2,list,args⟩ e2 r2 (by simp at hr1;omega)) rfl rfl rfl rfl ?_
   refine C5 ?_
   refine CX (dZ (2,1+1000000 * (1000+1)) (1,8) νb (tm':=[(0,.ptr 0 (0,0) 0),(1,.int .i64 (c-2)),(5,.ptr 300 (1,300) 0),(8,.ptr 8 (1,8) 0)]) ⟨rfl,rfl,rfl,rfl,trivial⟩) ?_ (D3 _ _)
   repeat (first | refine Zr rfl (by (conv=>lhs;whnf);try rfl) ?_ | refine ZJ rfl rfl rfl ?_ | refine Zm rfl rfl ?_ | refine A7 rfl rfl rfl rfl (by (conv=>lhs;whnf);try rfl) ?_ | refine AA rfl rfl ?_ | refine Zf ?_ | refine Zl ?_ | refine Zb ?_)
   obtain ⟨e3,h3,he4⟩:=Ya.1 he4
   by_cases h1:count-2=1
   ·rw [if_pos h1] at h3
    rw [Yh h1]
    have hf3:=CF hf2 h3
    repeat (first | (refine Zv rfl rfl ?_) | (refine ZC [_,_] νb (CP e2 r2 _ hf2.1 hf2.2 e3 h3) rfl rfl rfl rfl rfl rfl ?_) | (refine ZC [_,_] (νc _ _) (KJ e3 r2 _ hf3.1 e4 he4) rfl rfl rfl rfl rfl rfl ?_) | refine Zr rfl (by (conv=>lhs;whnf);try rfl) ?_ | refine ZJ rfl rfl rfl ?_ | refine Zf ?_ | refine Zb ?_ | refine ZE ?_ | refine BR ?_)
    exact C6 (f,c-2,e4,r2) 2 ⟨hf4,h⟩ (EK _) (C8 (νc 4 2) [_,_] (fun k=>(k,νc 4 2 k)) (fun _ _=>rfl) rfl ⟨rfl,rfl,trivial⟩ (x:=[]) (x':=[]) rfl rfl rfl (AO _) rfl)
   ·rw [if_neg h1] at h3
    injection h3 with h3
    subst h3
    rw [Yf h1]
    repeat (first | (refine Zk rfl rfl ?_) | (refine ZC [_,_] νb (KJ e2 r2 _ hf2.1 e4 he4) rfl rfl rfl rfl rfl rfl ?_) | refine Zr rfl (by (conv=>lhs;whnf);try rfl) ?_ | refine ZJ rfl rfl rfl ?_ | refine Zf ?_ | refine Zb ?_ | refine ZH ?_ | refine ZE ?_ | refine BR ?_)
    exact C6 (f,c-2,e4,r2) 2 ⟨hf4,h⟩ (EK _) (C8 (νc 3 2) [_,_] (fun k=>(k,νc 3 2 k)) (fun _ _=>rfl) rfl ⟨rfl,rfl,trivial⟩ (x:=[]) (x':=[]) rfl rfl rfl (AO _) rfl)
 ·have hK:BG c count=2:=if_neg (fun h=>hk1 h.1)
  have hN:DS c ⟨kind,tag,count,list,args⟩=⟨4,0,⟨#[]⟩,list,(El.argL ⟨kind,tag,count,list,args⟩).map Arg.cs⟩:=by unfold DS;rw [if_neg (fun h=>hk1 h.1)]
  rw [hK,hN] at h
  rw [Yf hk1]
  repeat (first | (refine Zw rfl ?_) | (refine Zk rfl rfl ?_) | (refine K4 (a:=c) (b:=2) rfl rfl rfl (by omega) (by omega) ?_) | (refine K4 (a:=count) (b:=2) rfl rfl rfl (by omega) (by omega) ?_) | refine Zr rfl (by (conv=>lhs;whnf);try rfl) ?_ | refine ZJ rfl rfl rfl ?_ | refine Zm rfl rfl ?_ | refine Zs rfl (by (conv=>lhs;whnf);try rfl) ?_ | refine A7 rfl rfl rfl rfl (by (conv=>lhs;whnf);try rfl) ?_ | refine AA rfl rfl ?_ | refine GR rfl rfl ?_ | refine BS rfl rfl rfl (by (conv=>lhs;whnf);try rfl) (by (conv=>lhs;whnf);try rfl) (by rfl) (by rfl) (Yk rfl) (by (conv=>lhs;whnf);try rfl) ?_ | refine D4 rfl rfl ?_ | refine B5 rfl rfl (by (conv=>lhs;whnf);try rfl) ?_ | refine Zf ?_ | refine EU (by kernel_rfl) ?_ | refine Zl ?_ | refine Zb ?_ | refine ZH ?_)
  by_cases hm:2<=count-2
  rw [if_pos hm] at h
  rw [Yh hm]
  refine Zv rfl rfl ?_
  have hfn:fits ⟨kind,tag,count-2,[Node.cs ⟨4,0,⟨#[]⟩,list,(El.argL ⟨kind,tag,count,list,args⟩).map Arg.cs⟩],none⟩ r1:=F9 hf1 ⟨⟨by omega,fun q hq=>by cases hq⟩,by show 1<=9223372036854775807;omega⟩
  rcases args with _ | ⟨pre,a⟩
  ·refine CX (M5 (b:=1001) (u:=8) (by omega) rfl rfl rfl (fun e he=>absurd he L3)) ?_ (D3 _ _)
   repeat (first | refine Zr rfl (by (conv=>lhs;whnf);try rfl) ?_ | refine ZJ rfl rfl rfl ?_ | refine Zm rfl rfl ?_ | refine AA rfl rfl ?_ | refine BS rfl rfl rfl (by (conv=>lhs;whnf);try rfl) (by (conv=>lhs;whnf);try rfl) (by rfl) (by rfl) (Yk rfl) (by (conv=>lhs;whnf);try rfl) ?_ | refine E9 rfl rfl rfl (by rfl) (by decide) (by (conv=>lhs;whnf);try rfl) ?_ | refine Zf ?_ | refine Zl ?_ | refine Zb ?_ | refine DD ?_ | refine ZE ?_ | refine GQ ?_)
   exact C6 (f,c-2,⟨kind,tag,count-2,[Node.cs ⟨4,0,⟨#[]⟩,list,[]⟩],none⟩,r1) 2 ⟨hfn,h⟩ (EK _) (Shift.trans (HH 1001 66 4 111 3 rfl rfl rfl) (Shift.trans (LI (t:=66) rfl) (QC (9,3) (10,0) 65 66 νb rfl ⟨rfl,rfl,trivial⟩ rfl rfl rfl rfl rfl rfl (GX (A:=[_,_,_,_,_,_,_,_,_,_,_,_,_]) rfl))))
  ·refine CX (KH 1003 pre.length 2 rfl (EH _ _ _ _) rfl (KL rfl) (eE _ _ _ _)) ?_ (D3 _ _)
   refine CX (M5 (b:=1001) (u:=8) (by omega) rfl rfl rfl TE) ?_ (D3 _ _)
   repeat (first | refine Zr rfl (by (conv=>lhs;whnf);try rfl) ?_ | refine ZJ rfl rfl rfl ?_ | refine Zm rfl rfl ?_ | refine AA rfl rfl ?_ | refine BS rfl rfl rfl (by (conv=>lhs;whnf);try rfl) (by (conv=>lhs;whnf);try rfl) (by rfl) (by rfl) (Yk rfl) (by (conv=>lhs;whnf);try rfl) ?_ | refine E9 rfl rfl rfl (by rfl) (by decide) (by (conv=>lhs;whnf);try rfl) ?_ | refine Zf ?_ | refine Zl ?_ | refine Zb ?_ | refine DD ?_ | refine ZE ?_ | refine GQ ?_)
   exact C6 (f,c-2,⟨kind,tag,count-2,[Node.cs ⟨4,0,⟨#[]⟩,list,(pre ++ [a]).map Arg.cs⟩],none⟩,r1) 2 ⟨hfn,h⟩ (EK _) (Shift.trans (HH 1001 66 4 111 3 rfl rfl rfl) (Shift.trans (LI (t:=66) rfl) (QC (9,3) (10,0) 65 66 νb rfl ⟨rfl,rfl,trivial⟩ rfl rfl rfl rfl rfl rfl (GX (A:=[_,_,_,_,_,_,_,_,_,_,_,_,_,_,_]) rfl))))
  ·rw [if_neg hm] at h
   rcases r1 with _ | ⟨e2,r2⟩
   cases h
   obtain ⟨e4,he4,h⟩:=Ya.1 h
   have hf2:=BO (DF hf1)
   have hf4:=F9 (DF hf1) (WZ hf2 he4)
   rw [Yf hm]
   refine Zk rfl rfl ?_
   refine CX (Shift.trans (dY (lits:=[_,_]) (m:=count-2) rfl) (C8 νb [_,_] (fun k=>if k=8 then (8,(5,10)) else (k,νb k)) (fun k hk=>if_neg (by omega)) rfl (tm':=[(0,.ptr 0 (0,0) 0),(1,.int .i64 (c-2)),(5,.ptr 1001 (1,1001) 0),(8,.ptr 8 (1,8) 0)]) ⟨rfl,rfl,rfl,rfl,trivial⟩ (x:=[(8,(5,10),.box [.int .i64 4,.int .i64 0,.str ⟨#[]⟩,.row 1002 (νb 1002),.row 1003 (νb 1003)])]) (x':=[(8,νb 8,.box [.int .i64 4,.int .i64 0,.str ⟨#[]⟩,.row 1002 (νb 1002),.row 1003 (νb 1003)])]) rfl rfl rfl (Zp rfl (AO _)) rfl)) ?_ (D3 _ _)
   repeat (first | refine Zr rfl (by (conv=>lhs;whnf);try rfl) ?_ | refine Zl ?_ | refine Zb ?_ | refine ZH ?_)
   refine QB [_] νb (Q8 ⟨kind,tag,count-2,list,args⟩ e2 r2 (by simp at hr1;omega)) rfl rfl rfl rfl ?_
   refine C5 ?_
   refine CX (dZ (2,1+1000000 * (1000+1)) (1,8) νb (tm':=[(0,.ptr 0 (0,0) 0),(1,.int .i64 (c-2)),(5,.ptr 300 (1,300) 0),(8,.ptr 8 (1,8) 0)]) ⟨rfl,rfl,rfl,rfl,trivial⟩) ?_ (D3 _ _)
   repeat (first | refine Zr rfl (by (conv=>lhs;whnf);try rfl) ?_ | refine ZJ rfl rfl rfl ?_ | refine Zm rfl rfl ?_ | refine A7 rfl rfl rfl rfl (by (conv=>lhs;whnf);try rfl) ?_ | refine AA rfl rfl ?_ | refine Zf ?_ | refine Zl ?_ | refine Zb ?_)
   obtain ⟨e3,h3,he4⟩:=Ya.1 he4
   by_cases h1:count-2=1
   ·rw [if_pos h1] at h3
    rw [Yh h1]
    have hf3:=CF hf2 h3
    repeat (first | (refine Zv rfl rfl ?_) | (refine ZC [_,_] νb (CP e2 r2 _ hf2.1 hf2.2 e3 h3) rfl rfl rfl rfl rfl rfl ?_) | (refine ZC [_,_] (νc _ _) (KJ e3 r2 _ hf3.1 e4 he4) rfl rfl rfl rfl rfl rfl ?_) | refine Zr rfl (by (conv=>lhs;whnf);try rfl) ?_ | refine ZJ rfl rfl rfl ?_ | refine Zf ?_ | refine Zb ?_ | refine ZE ?_ | refine BR ?_)
    exact C6 (f,c-2,e4,r2) 2 ⟨hf4,h⟩ (EK _) (C8 (νc 4 2) [_,_] (fun k=>(k,νc 4 2 k)) (fun _ _=>rfl) rfl ⟨rfl,rfl,trivial⟩ (x:=[]) (x':=[]) rfl rfl rfl (AO _) rfl)
   ·rw [if_neg h1] at h3
    injection h3 with h3
    subst h3
    rw [Yf h1]
    repeat (first | (refine Zk rfl rfl ?_) | (refine ZC [_,_] νb (KJ e2 r2 _ hf2.1 e4 he4) rfl rfl rfl rfl rfl rfl ?_) | refine Zr rfl (by (conv=>lhs;whnf);try rfl) ?_ | refine ZJ rfl rfl rfl ?_ | refine Zf ?_ | refine Zb ?_ | refine ZH ?_ | refine ZE ?_ | refine BR ?_)
    exact C6 (f,c-2,e4,r2) 2 ⟨hf4,h⟩ (EK _) (C8 (νc 3 2) [_,_] (fun k=>(k,νc 3 2 k)) (fun _ _=>rfl) rfl ⟨rfl,rfl,trivial⟩ (x:=[]) (x':=[]) rfl rfl rfl (AO _) rfl)}
end
end Go.Proofs.YtmgfammllddkhaaGreatDoor
