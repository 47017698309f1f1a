/- The parser's -/
import Derived.Test.YtmgfammllddkhaaGreatDoorCU07
set_option linter.unusedSimpArgs false
set_option maxRecDepth 100000
set_option maxHeartbeats 4000000
namespace Go.Proofs.YtmgfammllddkhaaGreatDoor
section
open VL
def NJ:Q3 PV->Q2 Node | [.int .i64 k,.int .i64 t,.str s,.sl a,.sl b]=>some ⟨k,t,s,a,b⟩ | _=>none
theorem o9 {e:Q3 PV} {n:Node} (h:NJ e=some n):e=n.cs:=by{
unfold NJ at h
split at h
cases h
rfl
cases h}
def VL.El.cur (e:El):Q3 (Q3 PV):=match e.args with | some (_,a)=>if e.kind=3 then a.value else e.list | none=>e.list
def VL.El.setCur (e:El) (l:Q3 (Q3 PV)):El:=match e.args with | some (pre,a)=>if e.kind=3 then ⟨e.kind,e.tag,e.count,e.list,some (pre,⟨a.named,a.name,l⟩)⟩ else ⟨e.kind,e.tag,e.count,l,e.args⟩ | none=>⟨e.kind,e.tag,e.count,l,none⟩
def F4 (l:Q3 (Q3 PV)) (n:Node):Q2 (Q3 (Q3 PV)):=AA 80 l [n.cs]
def GQ (l:Q3 (Q3 PV)) (s:Q1):Q2 (Q3 (Q3 PV)):=match l.getLast? with | none=>F4 l ⟨1,0,s,[],[]⟩ | some e=>(NJ e).bind fun n=>if n.kind=1 then (A7 n.text s).map fun y=>l.dropLast ++ [Node.cs ⟨1,n.tag,y,n.kids,n.args⟩] else F4 l ⟨1,0,s,[],[]⟩
theorem X8 {l l':Q3 (Q3 PV)} {s:Q1} (h:GQ l s=some l'):(l = []/\F4 l ⟨1,0,s,[],[]⟩=some l')\/∃ init n,l=init ++ [Node.cs n]/\((n.kind=1/\∃ y,A7 n.text s=some y/\l'=init ++ [Node.cs ⟨1,n.tag,y,n.kids,n.args⟩])\/(n.kind≠1/\F4 l ⟨1,0,s,[],[]⟩=some l')):=by{
unfold GQ at h
split at h
rename_i hl
exact .inl ⟨List.getLast?_eq_none_iff.1 hl,h⟩
rename_i e hl
obtain ⟨n,hn,h⟩:=Ya.1 h
obtain ⟨init,rfl⟩:=List.getLast?_eq_some_iff.1 hl
refine .inr ⟨init,n,by rw [o9 hn],?_⟩
split at h
rename_i hk
obtain ⟨y,hy,rfl⟩:=Ye.1 h
exact .inl ⟨hk,y,hy,by rw [Z8]⟩
rename_i hk
exact .inr ⟨hk,h⟩}
def small (e:El) (r:Q3 El):Prop:=r.length<=1000/\∀ q,e.args=some q->q.1.length<=1000000
def EG (e:El) (n:Node):Q2 El:=(F4 e.cur n).map e.setCur
def AM (e:El) (s:Q1):Q2 El:=if s=⟨#[]⟩ then some e else (GQ e.cur s).map e.setCur
theorem oA (e:El) (r:Q3 El) (n:Node) (hs:small e r) (l':Q3 (Q3 PV)) (h:e.kind≠3\/e.args=none) (hR:F4 e.list n=some l'):PC 103 [.agg n.cs] e r (.tup []) ⟨e.kind,e.tag,e.count,l',e.args⟩ r:=by{
refine ZI mix Tryz.func103 ?_
rw [CT]
obtain ⟨h1,h2,rfl⟩:=GJ hR
obtain ⟨kind,tag,count,list,args⟩:=e
rcases args with _ | ⟨pre,a⟩
·repeat (first | (refine CB [_] νa (CE _ r hs.1) rfl rfl rfl rfl rfl rfl ?_) | (refine HA [_] νa (M4 _ h hs.2) rfl rfl rfl rfl rfl ?_) | (refine IZ rfl rfl rfl rfl h1 h2 (by rfl) ?_) | (refine EO (n:=list.length) rfl rfl rfl rfl (by simp) ?_) | (refine HC rfl rfl rfl (CX _ _) rfl rfl rfl rfl (Yk rfl) rfl (EE _ _ _) ?_) | refine A3 ?_)
 exact FQ (.inr rfl) (0,0) (0,1000) (fun k=>if k=1002 then (3,6) else νa k) νa [_,_,_,_,_] [] rfl rfl trivial rfl rfl (Zp rfl (Zp rfl (Zp rfl (AP _)))) rfl rfl
·repeat (first | (refine CB [_] νa (CE _ r hs.1) rfl rfl rfl rfl rfl rfl ?_) | (refine HA [_] νa (M4 _ h hs.2) rfl rfl rfl rfl rfl ?_) | (refine IZ rfl rfl rfl rfl h1 h2 (by rfl) ?_) | (refine EO (n:=list.length) rfl rfl rfl rfl (by simp) ?_) | (refine HC rfl rfl rfl (CX _ _) rfl rfl rfl rfl (Yk rfl) rfl (EE _ _ _) ?_) | refine A3 ?_)
 exact FQ (.inr rfl) (0,0) (0,1000) (fun k=>if k=1002 then (3,6) else νa k) νa [_,_,_,_,_] [] rfl rfl trivial rfl rfl (Zp rfl (Zp rfl (Zp rfl (Zp rfl (AP _))))) rfl rfl}
theorem ZwD (tag count:Int) (list:Q3 (Q3 PV)) (pre:Q3 Arg) (a:Arg) (r:Q3 El) (n:Node) (hs:small ⟨3,tag,count,list,some (pre,a)⟩ r) (l':Q3 (Q3 PV)) (hR:F4 a.value n=some l') :
  PC 103 [.agg n.cs] ⟨3,tag,count,list,some (pre,a)⟩ r (.tup []) ⟨3,tag,count,list,some (pre,⟨a.named,a.name,l'⟩)⟩ r:=by{
refine ZI mix Tryz.func103 ?_
rw [CT]
obtain ⟨h1,h2,rfl⟩:=GJ hR
repeat (first | (refine CB [_] νa (CE _ r hs.1) rfl rfl rfl rfl rfl rfl ?_) | (refine HA [_] νa (X7 _ _ _ _ _ (hs.2 _ rfl)) rfl rfl rfl rfl rfl ?_) | (refine NI rfl rfl ?_) | (refine G4 rfl rfl rfl (EF _ _ _ _) rfl ?_) | (refine IZ rfl rfl rfl rfl h1 h2 (by rfl) ?_) | (refine EO (n:=a.value.length) rfl rfl rfl rfl (by simp) ?_) | (refine HC rfl rfl rfl (CX _ _) rfl rfl rfl rfl (Yk rfl) rfl (EE _ _ _) ?_) | (refine VY rfl rfl rfl (EF _ _ _ _) rfl rfl rfl rfl (Yk rfl) (QC _ _ _ _ _) ?_) | refine A3 ?_)
exact FQ (.inr rfl) (0,0) (0,1000) (fun k=>if k=1004 then (3,6) else νa k) νa [_,_,_,_,_] [] rfl rfl trivial rfl rfl (Zp rfl (Zp rfl (Zp rfl (Zp rfl (AP _))))) rfl rfl}
theorem G9 {α:Type} (l:Q3 α) (a:α):(l ++ [a]).length=l.length+1:=by simp
theorem Ztp (e:El) (r:Q3 El):PC 102 [.str ⟨#[]⟩] e r (.tup []) e r:=by{
refine ZI mix Tryz.func102 ?_
rw [CT]
repeat (first | (refine Zv rfl rfl ?_) | refine A3 ?_)
exact BW (.inl rfl) νa [] [] rfl rfl trivial rfl rfl}
theorem ZrV (e:El) (r:Q3 El) (s:Q1) (h0:s≠⟨#[]⟩) (hs:small e r) (l':Q3 (Q3 PV)) (ha:e.args=none) (h63:e.list.length<=9223372036854775807) (hR:GQ e.list s=some l'):PC 102 [.str s] e r (.tup []) ⟨e.kind,e.tag,e.count,l',e.args⟩ r:=by{
refine ZI mix Tryz.func102 ?_
rw [CT]
have h:e.kind≠3\/e.args=none:=.inr ha
obtain ⟨kind,tag,count,list,args⟩:=e
obtain rfl:args=none:=ha
simp only [] at h63
repeat refine A3 ?_
rw [Yf h0]
rcases X8 hR with ⟨hl,hR⟩ | ⟨init,n,hl,⟨hk,y,hy,rfl⟩ | ⟨hk,hR⟩⟩
·obtain ⟨h1,h2,rfl⟩:=GJ hR
 dsimp only at hl
 subst hl
 repeat (first | (refine Zk rfl rfl ?_) | (refine CB [] νa (CE _ r hs.1) rfl rfl rfl rfl rfl rfl ?_) | (refine HA [] νa (M4 _ h hs.2) rfl rfl rfl rfl rfl ?_) | (refine IZ rfl rfl rfl rfl h1 h2 (by rfl) ?_) | (refine EO (n:=List.length ([]:Q3 (Q3 PV))) rfl rfl rfl rfl (by simp) ?_) | (refine HC rfl rfl rfl (CX _ _) rfl rfl rfl rfl (Yk rfl) rfl (EE _ _ _) ?_) | (refine Zw rfl ?_) | refine A3 ?_)
 exact FQ (.inr rfl) (0,0) (0,1000) (fun k=>if k=1002 then (5,7) else νa k) νa [_,_,_,_] [] rfl rfl trivial rfl rfl (Zp rfl (Zp rfl (Zp rfl (AP _)))) rfl rfl
·dsimp only at hl
 subst hl
 rw [G9] at h63
 obtain ⟨k0,t0,s0,ks,ag⟩:=n
 dsimp only at hk hy
 subst hk
 repeat (first | (refine Zk rfl rfl ?_) | (refine CB [] νa (CE _ r hs.1) rfl rfl rfl rfl rfl rfl ?_) | (refine HA [] νa (M4 _ h hs.2) rfl rfl rfl rfl rfl ?_) | (refine CM rfl rfl (G9 _ _) ?_) | refine A3 ?_)
 rw [show decide ((0:Int)<((init.length+1:Nat):Int))=true from Yh (by omega)]
 repeat (first | (refine Zv rfl rfl ?_) | (refine EP rfl rfl rfl (by omega) ?_) | (refine EO (n:=init.length) rfl rfl rfl rfl (by simp) ?_) | (refine QB rfl rfl rfl (CX _ _) rfl ?_) | (refine VS rfl hy rfl rfl ?_) | (refine HC rfl rfl rfl (CX _ _) rfl rfl rfl rfl (Yk rfl) rfl (EE _ _ _) ?_) | refine A3 ?_)
 exact FQ (.inl rfl) (0,0) (0,1000) νa νa [_] [] rfl rfl trivial rfl rfl (Zp rfl (Zp rfl (Zp rfl (AP _)))) rfl rfl
·obtain ⟨h1,h2,rfl⟩:=GJ hR
 dsimp only at hl
 subst hl
 rw [G9] at h63
 repeat (first | (refine Zk rfl rfl ?_) | (refine CB [] νa (CE _ r hs.1) rfl rfl rfl rfl rfl rfl ?_) | (refine HA [] νa (M4 _ h hs.2) rfl rfl rfl rfl rfl ?_) | (refine CM rfl rfl (G9 _ _) ?_) | refine A3 ?_)
 rw [show decide ((0:Int)<((init.length+1:Nat):Int))=true from Yh (by omega)]
 repeat (first | (refine EP rfl rfl rfl (by omega) ?_) | (refine EO (n:=init.length) rfl rfl rfl rfl (by simp) ?_) | (refine QB rfl rfl rfl (CX _ _) rfl ?_) | refine A3 ?_)
 rw [Yf hk]
 repeat (first | (refine Zk rfl rfl ?_) | (refine IZ rfl rfl rfl rfl h1 h2 (by rfl) ?_) | (refine EO (n:=List.length (init ++ [Node.cs n])) rfl rfl rfl rfl (by simp) ?_) | (refine HC rfl rfl rfl (CX _ _) rfl rfl rfl rfl (Yk rfl) rfl (EE _ _ _) ?_) | refine A3 ?_)
 exact FQ (.inr rfl) (0,0) (0,1000) (fun k=>if k=1002 then (5,7) else νa k) νa [_,_,_,_] [] rfl rfl trivial rfl rfl (Zp rfl (Zp rfl (Zp rfl (AP _)))) rfl rfl}
theorem ZrW (e:El) (r:Q3 El) (s:Q1) (h0:s≠⟨#[]⟩) (hs:small e r) (l':Q3 (Q3 PV)) (h:e.kind≠3\/e.args=none) (ha:e.args≠none) (h63:e.list.length<=9223372036854775807) (hR:GQ e.list s=some l'):PC 102 [.str s] e r (.tup []) ⟨e.kind,e.tag,e.count,l',e.args⟩ r:=by{
refine ZI mix Tryz.func102 ?_
rw [CT]
obtain ⟨kind,tag,count,list,args⟩:=e
rcases args with _ | ⟨pre,a⟩
exact absurd rfl ha
simp only [] at h63
repeat refine A3 ?_
rw [Yf h0]
rcases X8 hR with ⟨hl,hR⟩ | ⟨init,n,hl,⟨hk,y,hy,rfl⟩ | ⟨hk,hR⟩⟩
·obtain ⟨h1,h2,rfl⟩:=GJ hR
 dsimp only at hl
 subst hl
 repeat (first | (refine Zk rfl rfl ?_) | (refine CB [] νa (CE _ r hs.1) rfl rfl rfl rfl rfl rfl ?_) | (refine HA [] νa (M4 _ h hs.2) rfl rfl rfl rfl rfl ?_) | (refine IZ rfl rfl rfl rfl h1 h2 (by rfl) ?_) | (refine EO (n:=List.length ([]:Q3 (Q3 PV))) rfl rfl rfl rfl (by simp) ?_) | (refine HC rfl rfl rfl (CX _ _) rfl rfl rfl rfl (Yk rfl) rfl (EE _ _ _) ?_) | (refine Zw rfl ?_) | refine A3 ?_)
 exact FQ (.inr rfl) (0,0) (0,1000) (fun k=>if k=1002 then (5,7) else νa k) νa [_,_,_,_] [] rfl rfl trivial rfl rfl (Zp rfl (Zp rfl (Zp rfl (Zp rfl (AP _))))) rfl rfl
·dsimp only at hl
 subst hl
 rw [G9] at h63
 obtain ⟨k0,t0,s0,ks,ag⟩:=n
 dsimp only at hk hy
 subst hk
 repeat (first | (refine Zk rfl rfl ?_) | (refine CB [] νa (CE _ r hs.1) rfl rfl rfl rfl rfl rfl ?_) | (refine HA [] νa (M4 _ h hs.2) rfl rfl rfl rfl rfl ?_) | (refine CM rfl rfl (G9 _ _) ?_) | refine A3 ?_)
 rw [show decide ((0:Int)<((init.length+1:Nat):Int))=true from Yh (by omega)]
 repeat (first | (refine Zv rfl rfl ?_) | (refine EP rfl rfl rfl (by omega) ?_) | (refine EO (n:=init.length) rfl rfl rfl rfl (by simp) ?_) | (refine QB rfl rfl rfl (CX _ _) rfl ?_) | (refine VS rfl hy rfl rfl ?_) | (refine HC rfl rfl rfl (CX _ _) rfl rfl rfl rfl (Yk rfl) rfl (EE _ _ _) ?_) | refine A3 ?_)
 exact FQ (.inl rfl) (0,0) (0,1000) νa νa [_] [] rfl rfl trivial rfl rfl (Zp rfl (Zp rfl (Zp rfl (Zp rfl (AP _))))) rfl rfl
·obtain ⟨h1,h2,rfl⟩:=GJ hR
 dsimp only at hl
 subst hl
 rw [G9] at h63
 repeat (first | (refine Zk rfl rfl ?_) | (refine CB [] νa (CE _ r hs.1) rfl rfl rfl rfl rfl rfl ?_) | (refine HA [] νa (M4 _ h hs.2) rfl rfl rfl rfl rfl ?_) | (refine CM rfl rfl (G9 _ _) ?_) | refine A3 ?_)
 rw [show decide ((0:Int)<((init.length+1:Nat):Int))=true from Yh (by omega)]
 repeat (first | (refine EP rfl rfl rfl (by omega) ?_) | (refine EO (n:=init.length) rfl rfl rfl rfl (by simp) ?_) | (refine QB rfl rfl rfl (CX _ _) rfl ?_) | refine A3 ?_)
 rw [Yf hk]
 repeat (first | (refine Zk rfl rfl ?_) | (refine IZ rfl rfl rfl rfl h1 h2 (by rfl) ?_) | (refine EO (n:=List.length (init ++ [Node.cs n])) rfl rfl rfl rfl (by simp) ?_) | (refine HC rfl rfl rfl (CX _ _) rfl rfl rfl rfl (Yk rfl) rfl (EE _ _ _) ?_) | refine A3 ?_)
 exact FQ (.inr rfl) (0,0) (0,1000) (fun k=>if k=1002 then (5,7) else νa k) νa [_,_,_,_] [] rfl rfl trivial rfl rfl (Zp rfl (Zp rfl (Zp rfl (Zp rfl (AP _))))) rfl rfl}
theorem ZvY (tag count:Int) (list:Q3 (Q3 PV)) (pre:Q3 Arg) (a:Arg) (r:Q3 El) (s:Q1) (h0:s≠⟨#[]⟩) (hs:small ⟨3,tag,count,list,some (pre,a)⟩ r) (l':Q3 (Q3 PV)) (h63:a.value.length<=9223372036854775807) (hR:GQ a.value s=some l') :
  PC 102 [.str s] ⟨3,tag,count,list,some (pre,a)⟩ r (.tup []) ⟨3,tag,count,list,some (pre,⟨a.named,a.name,l'⟩)⟩ r:=by{
refine ZI mix Tryz.func102 ?_
rw [CT]
obtain ⟨named,name,value⟩:=a
dsimp only at h63 hR ⊢
repeat refine A3 ?_
rw [Yf h0]
rcases X8 hR with ⟨hl,hR⟩ | ⟨init,n,hl,⟨hk,y,hy,rfl⟩ | ⟨hk,hR⟩⟩
·obtain ⟨h1,h2,rfl⟩:=GJ hR
 subst hl
 repeat (first | (refine Zk rfl rfl ?_) | (refine CB [] νa (CE _ r hs.1) rfl rfl rfl rfl rfl rfl ?_) | (refine HA [] νa (X7 _ _ _ _ _ (hs.2 _ rfl)) rfl rfl rfl rfl rfl ?_) | (refine NI rfl rfl ?_) | (refine G4 rfl rfl rfl (EF _ _ _ _) rfl ?_) | (refine IZ rfl rfl rfl rfl h1 h2 (by rfl) ?_) | (refine EO (n:=List.length ([]:Q3 (Q3 PV))) rfl rfl rfl rfl (by simp) ?_) | (refine HC rfl rfl rfl (CX _ _) rfl rfl rfl rfl (Yk rfl) rfl (EE _ _ _) ?_) | (refine VY rfl rfl rfl (EF _ _ _ _) rfl rfl rfl rfl (Yk rfl) (QC _ _ _ _ _) ?_) | (refine Zw rfl ?_) | refine A3 ?_)
 exact FQ (.inr rfl) (0,0) (0,1000) (fun k=>if k=1004 then (5,7) else νa k) νa [_,_,_,_] [] rfl rfl trivial rfl rfl (Zp rfl (Zp rfl (Zp rfl (Zp rfl (AP _))))) rfl rfl
·skip
 subst hl
 rw [G9] at h63
 obtain ⟨k0,t0,s0,ks,ag⟩:=n
 dsimp only at hk hy
 subst hk
 repeat (first | (refine Zk rfl rfl ?_) | (refine CB [] νa (CE _ r hs.1) rfl rfl rfl rfl rfl rfl ?_) | (refine HA [] νa (X7 _ _ _ _ _ (hs.2 _ rfl)) rfl rfl rfl rfl rfl ?_) | (refine NI rfl rfl ?_) | (refine G4 rfl rfl rfl (EF _ _ _ _) rfl ?_) | (refine CM rfl rfl (G9 _ _) ?_) | refine A3 ?_)
 rw [show decide ((0:Int)<((init.length+1:Nat):Int))=true from Yh (by omega)]
 repeat (first | (refine NI rfl rfl ?_) | (refine G4 rfl rfl rfl (EF _ _ _ _) rfl ?_) | (refine Zv rfl rfl ?_) | (refine EP rfl rfl rfl (by omega) ?_) | (refine EO (n:=init.length) rfl rfl rfl rfl (by simp) ?_) | (refine QB rfl rfl rfl (CX _ _) rfl ?_) | (refine VS rfl hy rfl rfl ?_) | (refine HC rfl rfl rfl (CX _ _) rfl rfl rfl rfl (Yk rfl) rfl (EE _ _ _) ?_) | refine A3 ?_)
 exact FQ (.inl rfl) (0,0) (0,1000) νa νa [_] [] rfl rfl trivial rfl rfl (Zp rfl (Zp rfl (Zp rfl (Zp rfl (AP _))))) rfl rfl
·obtain ⟨h1,h2,rfl⟩:=GJ hR
 subst hl
 rw [G9] at h63
 repeat (first | (refine Zk rfl rfl ?_) | (refine CB [] νa (CE _ r hs.1) rfl rfl rfl rfl rfl rfl ?_) | (refine HA [] νa (X7 _ _ _ _ _ (hs.2 _ rfl)) rfl rfl rfl rfl rfl ?_) | (refine NI rfl rfl ?_) | (refine G4 rfl rfl rfl (EF _ _ _ _) rfl ?_) | (refine CM rfl rfl (G9 _ _) ?_) | refine A3 ?_)
 rw [show decide ((0:Int)<((init.length+1:Nat):Int))=true from Yh (by omega)]
 repeat (first | (refine NI rfl rfl ?_) | (refine G4 rfl rfl rfl (EF _ _ _ _) rfl ?_) | (refine EP rfl rfl rfl (by omega) ?_) | (refine EO (n:=init.length) rfl rfl rfl rfl (by simp) ?_) | (refine QB rfl rfl rfl (CX _ _) rfl ?_) | refine A3 ?_)
 rw [Yf hk]
 repeat (first | (refine Zk rfl rfl ?_) | (refine NI rfl rfl ?_) | (refine G4 rfl rfl rfl (EF _ _ _ _) rfl ?_) | (refine IZ rfl rfl rfl rfl h1 h2 (by rfl) ?_) | (refine EO (n:=List.length (init ++ [Node.cs n])) rfl rfl rfl rfl (by simp) ?_) | (refine HC rfl rfl rfl (CX _ _) rfl rfl rfl rfl (Yk rfl) rfl (EE _ _ _) ?_) | (refine VY rfl rfl rfl (EF _ _ _ _) rfl rfl rfl rfl (Yk rfl) (QC _ _ _ _ _) ?_) | refine A3 ?_)
 exact FQ (.inr rfl) (0,0) (0,1000) (fun k=>if k=1004 then (5,7) else νa k) νa [_,_,_,_] [] rfl rfl trivial rfl rfl (Zp rfl (Zp rfl (Zp rfl (Zp rfl (AP _))))) rfl rfl}
theorem CN (e:El) (r:Q3 El) (s:Q1) (hs:small e r) (h63:e.cur.length<=9223372036854775807) (e':El) (h:AM e s=some e'):PC 102 [.str s] e r (.tup []) e' r:=by{
unfold AM at h
split at h
rename_i h0
injection h with h
subst h0 h
exact Ztp e r
rename_i h0
obtain ⟨l',hR,rfl⟩:=Ye.1 h
obtain ⟨kind,tag,count,list,args⟩:=e
rcases args with _ | ⟨pre,a⟩
exact ZrV _ r s h0 hs l' rfl h63 hR
by_cases hk:kind=3
subst hk
exact ZvY tag count list pre a r s h0 hs l' h63 hR
have e1:VL.El.cur ⟨kind,tag,count,list,some (pre,a)⟩=list:=if_neg hk
have e2:VL.El.setCur ⟨kind,tag,count,list,some (pre,a)⟩ l'=⟨kind,tag,count,l',some (pre,a)⟩:=if_neg hk
rw [e1] at hR h63
rw [e2]
exact ZrW ⟨kind,tag,count,list,some (pre,a)⟩ r s h0 hs l' (.inl hk) (by intro h;cases h) h63 hR}
theorem KE (e:El) (r:Q3 El) (n:Node) (hs:small e r) (e':El) (h:EG e n=some e'):PC 103 [.agg n.cs] e r (.tup []) e' r:=by{
obtain ⟨l',hR,rfl⟩:=Ye.1 h
obtain ⟨kind,tag,count,list,args⟩:=e
rcases args with _ | ⟨pre,a⟩
exact oA _ r n hs l' (.inr rfl) hR
by_cases hk:kind=3
subst hk
exact ZwD tag count list pre a r n hs l' hR
have e1:VL.El.cur ⟨kind,tag,count,list,some (pre,a)⟩=list:=if_neg hk
have e2:VL.El.setCur ⟨kind,tag,count,list,some (pre,a)⟩ l'=⟨kind,tag,count,l',some (pre,a)⟩:=if_neg hk
rw [e1] at hR
rw [e2]
exact oA ⟨kind,tag,count,list,some (pre,a)⟩ r n hs l' (.inl hk) hR}
theorem QD (e e2:El) (r:Q3 El) (hr:r.length<=999):ContractG Q7 111 [.ptr 0 (0,0) 0] (objs (stP νa e (e2::r))) (.ptr 1001 (0,1001) 0) (EZ 78 111 98 νa (1,1000) e e2 r):=by{
refine ZI mix Tryz.func111 ?_
rw [CT]
repeat (first | (refine CB [] νa (CE e (e2::r) (by simp;omega)) rfl rfl rfl rfl rfl rfl ?_) | (refine CM rfl rfl (ED _ _ _) ?_) | (refine EP rfl rfl rfl (by simp;omega) ?_) | (refine yW rfl rfl rfl rfl (by rw [ED];omega) (ZwY _ _ _) ?_) | refine A3 ?_)
exact ZwZ (3,11) [_,_] [(2,.ptr 1001 (0,1001) 0)] rfl rfl ⟨rfl,trivial⟩ rfl rfl rfl rfl}
abbrev QE (k t c:Int):Q3 (Nat×VObj):=[(1,.box [.int .i64 k,.int .i64 t,.int .i64 c,.nil,.nil])]
theorem ZtG (e e':El) (r:Q3 El) (k t c:Int) (s:Q1) (hr:20<=r.length) (hs:small e r) (h63:e.cur.length<=9223372036854775807) (h:AM e s=some e') :
  ContractG Q7 104 [.ptr 0 (0,0) 0,.ptr 1 (0,1) 0,.str s] (objs (stP νa e r)++QE k t c) (.tup []) (stP νb e' r):=by{
refine ZI mix Tryz.func104 ?_
rw [nU,CT,o7 rfl]
repeat (first | (refine CM rfl rfl (ED _ _ _) ?_) | refine A3 ?_)
rw [show decide ((20:Int)<((r.length+1:Nat):Int))=true from Yh (by omega)]
repeat (first | (refine Zv rfl rfl ?_) | (refine ZD [_] νa (CN e r s hs h63 e' h) rfl rfl rfl rfl rfl rfl ?_) | refine A3 ?_)
exact BW (.inl rfl) (νc 2 2) [_] [] rfl rfl trivial rfl rfl}
theorem ZtH (e:El) (r:Q3 El) (k t c:Int) (s:Q1) (hr:r.length<20) :
  ContractG Q7 104 [.ptr 0 (0,0) 0,.ptr 1 (0,1) 0,.str s] (objs (stP νa e r)++QE k t c) (.tup []) (stP νb ⟨k,t,c,[],none⟩ (e::r)):=by{
refine ZI mix Tryz.func104 ?_
rw [nU,CT,o7 rfl]
repeat (first | (refine CM rfl rfl (ED _ _ _) ?_) | refine A3 ?_)
rw [show decide ((20:Int)<((r.length+1:Nat):Int))=false from Yf (by omega)]
repeat (first | (refine Zk rfl rfl ?_) | (refine VZ rfl rfl rfl rfl (Yk rfl) rfl ?_) | (refine cD (new:=[[.ptr 1 (0,1) 0]]) rfl rfl rfl rfl (by rw [ED];simp;omega) (by rw [ED];simp;omega) (by simp) ?_) | refine A3 ?_)
exact KD (H4 1 5 3 78 5 rfl rfl rfl) (KD (H4 1 6 4 111 3 rfl rfl rfl) (KD (LI (t:=6) rfl) (ZuZ (.inr rfl) (0,0) (2,7) (0,1) (3,0) (4,0) 1 5 6 νa [_,_,_,_,_,_,_,_,_] [] rfl rfl trivial rfl rfl rfl rfl rfl rfl rfl rfl)))}
def KF (e:El):Q2 El:=match e.args with | some (pre,a)=>if e.kind=3/\a.named=false then some ⟨e.kind,e.tag,e.count,e.list,some (pre,⟨true,a.value,[]⟩)⟩ else AM e ⟨#[61]⟩ | none=>AM e ⟨#[61]⟩
theorem ZvO (e e':El) (r:Q3 El) (hs:small e r) (h63:e.cur.length<=9223372036854775807) (hk:e.kind≠3) (h:AM e ⟨#[124]⟩=some e'):PC 106 [] e r (.tup []) e' r:=by{
refine ZI mix Tryz.func106 ?_
rw [CT]
repeat (first | (refine CB [] νa (CE e r hs.1) rfl rfl rfl rfl rfl rfl ?_) | refine A3 ?_)
rw [Yf hk]
repeat (first | (refine Zk rfl rfl ?_) | (refine ZD [] νa (CN e r _ hs h63 e' h) rfl rfl rfl rfl rfl rfl ?_) | refine A3 ?_)
exact BW (.inr rfl) (νc 3 1) [] [] rfl rfl trivial rfl rfl}
theorem ZvP (tag count:Int) (list:Q3 (Q3 PV)) (r:Q3 El) (hr:r.length<=1000):PC 106 [] ⟨3,tag,count,list,none⟩ r (.tup []) ⟨3,tag,count,list,some ([],⟨false,[],[]⟩)⟩ r:=by{
refine ZI mix Tryz.func106 ?_
rw [CT]
repeat (first | (refine CB [] νa (CE _ r hr) rfl rfl rfl rfl rfl rfl ?_) | (refine Zv rfl rfl ?_) | (refine VZ rfl rfl rfl rfl (Yk rfl) rfl ?_) | (refine cD (els:=[]) (new:=[[.bool false,.nil,.nil]]) rfl rfl rfl rfl (by simp) (by simp) (by simp) ?_) | refine A3 ?_)
exact KD (KC 1003 0 1 rfl rfl rfl rfl rfl) (KD (dZ 1003 1004 0 2 78 5 rfl rfl rfl rfl rfl) (FQ (.inl rfl) (0,0) (0,1000) (fun k=>if k=1003 then (3,7) else if k=1004 then (4,0) else νa k) νa [_,_,_,_,_,_] [] rfl rfl trivial rfl rfl (Zp rfl (Zp rfl (Zp rfl (Zp rfl (AP _))))) rfl rfl))}
theorem oB (pre:Q3 Arg) (a:Arg):(pre.map Arg.cs ++ [a.cs]).length=pre.length+1:=by simp
theorem oC (pre:Q3 Arg) (a:Arg) (x:Q3 PV):(pre.map Arg.cs ++ [a.cs] ++ [x])[pre.length+1]? = some x:=by
 have:=CX (pre.map Arg.cs ++ [a.cs]) x
 rwa [oB] at this
theorem oD (pre:Q3 Arg) (a:Arg) (x y:Q3 PV):(pre.map Arg.cs ++ [a.cs] ++ [x]).set (pre.length+1) y=pre.map Arg.cs ++ [a.cs] ++ [y]:=by
 have:=EE (pre.map Arg.cs ++ [a.cs]) x y
 rwa [oB] at this
theorem oE (pre:Q3 Arg) (x:Q3 PV):(pre.map Arg.cs ++ [x])[pre.length]? = some x:=by
 have:=CX (pre.map Arg.cs) x
 rwa [Yv] at this
theorem oF (pre:Q3 Arg) (x y:Q3 PV):(pre.map Arg.cs ++ [x]).set pre.length y=pre.map Arg.cs ++ [y]:=by
 have:=EE (pre.map Arg.cs) x y
 rwa [Yv] at this
theorem ZvQ (pre:Q3 Arg) (a:Arg) (x y:Q3 PV):(pre.map Arg.cs ++ [a.cs] ++ [x]).set (pre.length+1) y=(pre ++ [a]).map Arg.cs ++ [y]:=by
 rw [oD]
 simp
theorem ZvR (tag count:Int) (list:Q3 (Q3 PV)) (pre:Q3 Arg) (a:Arg) (r:Q3 El) (hs:small ⟨3,tag,count,list,some (pre,a)⟩ r):PC 106 [] ⟨3,tag,count,list,some (pre,a)⟩ r (.tup []) ⟨3,tag,count,list,some (pre ++ [a],⟨false,[],[]⟩)⟩ r:=by{
have hp:pre.length<=1000000:=hs.2 _ rfl
refine ZI mix Tryz.func106 ?_
rw [CT]
repeat (first | (refine CB [] νa (CE _ r hs.1) rfl rfl rfl rfl rfl rfl ?_) | refine A3 ?_)
refine Zv rfl rfl ?_
refine CU (KC 1003 pre.length 2 rfl (EF _ _ _ _) rfl rfl (QC _ _ _ _ _)) ?_ (CY _ _)
repeat (first | (refine VZ rfl rfl rfl rfl (Yk rfl) rfl ?_) | (refine cD (els:=pre.map Arg.cs ++ [a.cs]) (new:=[[.bool false,.nil,.nil]]) rfl rfl rfl rfl (by simp;omega) (by simp;omega) (by simp) ?_) | refine A3 ?_)
exact KD (KC 1003 (pre.length+1) 1 rfl (oC _ _ _) rfl rfl (oD _ _ _ _)) (KD (dZ 1003 1004 (pre.length+1) 2 78 5 rfl rfl (oC _ _ _) rfl (ZvQ _ _ _ _)) (FQ (.inl rfl) (0,0) (0,1000) (fun k=>if k=1003 then (3,7) else if k=1004 then (4,0) else νa k) νa [_,_,_,_,_,_,_,_] [] rfl rfl trivial rfl rfl (Zp rfl (Zp rfl (Zp rfl (Zp rfl (AP _))))) rfl rfl))}
theorem oG (e e':El) (r:Q3 El) (hs:small e r) (h63:e.cur.length<=9223372036854775807) (hc:e.kind≠3\/e.args=none\/∃ pre a,e.args=some (pre,a)/\a.named=true) (h:AM e ⟨#[61]⟩=some e'):PC 107 [] e r (.tup []) e' r:=by{
refine ZI mix Tryz.func107 ?_
rw [CT]
obtain ⟨kind,tag,count,list,args⟩:=e
rcases args with _ | ⟨pre,a⟩
by_cases hk:kind=3
·subst hk
 repeat (first | (refine CB [] νa (CE _ r hs.1) rfl rfl rfl rfl rfl rfl ?_) | (refine CM (n:=0) rfl rfl rfl ?_) | (refine Zw rfl ?_) | (refine Zk rfl rfl ?_) | (refine ZD [] νa (CN _ r _ hs h63 e' h) rfl rfl rfl rfl rfl rfl ?_) | refine A3 ?_)
 exact BW (.inr rfl) (νc 4 1) [] [] rfl rfl trivial rfl rfl
·repeat (first | (refine CB [] νa (CE _ r hs.1) rfl rfl rfl rfl rfl rfl ?_) | (refine CM (n:=0) rfl rfl rfl ?_) | refine A3 ?_)
 rw [Yf hk]
 repeat (first | (refine Zw rfl ?_) | (refine Zk rfl rfl ?_) | (refine ZD [] νa (CN _ r _ hs h63 e' h) rfl rfl rfl rfl rfl rfl ?_) | refine A3 ?_)
 exact BW (.inr rfl) (νc 4 1) [] [] rfl rfl trivial rfl rfl
have hp:pre.length<=1000000:=hs.2 _ rfl
by_cases hk:kind=3
·obtain ⟨named,name,value⟩:=a
 obtain rfl:named=true:=by
  rcases hc with hc | hc | ⟨pre',a',h1,h2⟩
  exact absurd hk hc
  cases hc
  injection h1 with h1
  injection h1 with _ h1
  rw [<- h1] at h2
  exact h2
 subst hk
 repeat (first | (refine CB [] νa (CE _ r hs.1) rfl rfl rfl rfl rfl rfl ?_) | (refine CM rfl rfl (M3 ..) ?_) | refine A3 ?_)
 rw [show decide ((0:Int)<((pre.length+1:Nat):Int))=true from Yh (by omega)]
 repeat (first | (refine EP rfl rfl rfl (by omega) ?_) | (refine LJ rfl rfl rfl rfl (by rw [M3];omega) ?_) | (refine G4 rfl rfl rfl (EF _ _ _ _) rfl ?_) | (refine Zk rfl rfl ?_) | (refine ZD [] νa (CN _ r _ hs h63 e' h) rfl rfl rfl rfl rfl rfl ?_) | refine A3 ?_)
 exact BW (.inr rfl) (νc 4 1) [] [] rfl rfl trivial rfl rfl
·repeat (first | (refine CB [] νa (CE _ r hs.1) rfl rfl rfl rfl rfl rfl ?_) | (refine CM rfl rfl (M3 ..) ?_) | refine A3 ?_)
 rw [Yf hk]
 repeat (first | (refine Zw rfl ?_) | (refine Zk rfl rfl ?_) | (refine ZD [] νa (CN _ r _ hs h63 e' h) rfl rfl rfl rfl rfl rfl ?_) | refine A3 ?_)
 exact BW (.inr rfl) (νc 4 1) [] [] rfl rfl trivial rfl rfl}
theorem Zs6 (tag count:Int) (list:Q3 (Q3 PV)) (pre:Q3 Arg) (name value:Q3 (Q3 PV)) (r:Q3 El) (hs:small ⟨3,tag,count,list,some (pre,⟨false,name,value⟩)⟩ r):PC 107 [] ⟨3,tag,count,list,some (pre,⟨false,name,value⟩)⟩ r (.tup []) ⟨3,tag,count,list,some (pre,⟨true,value,[]⟩)⟩ r:=by{
have hp:pre.length<=1000000:=hs.2 _ rfl
refine ZI mix Tryz.func107 ?_
rw [CT]
repeat (first | (refine CB [] νa (CE _ r hs.1) rfl rfl rfl rfl rfl rfl ?_) | (refine CM rfl rfl (M3 ..) ?_) | refine A3 ?_)
rw [show decide ((0:Int)<((pre.length+1:Nat):Int))=true from Yh (by omega)]
repeat (first | (refine EP rfl rfl rfl (by omega) ?_) | (refine LJ rfl rfl rfl rfl (by rw [M3];omega) ?_) | (refine G4 rfl rfl rfl (EF _ _ _ _) rfl ?_) | (refine Zv rfl rfl ?_) | (refine VY rfl rfl rfl (EF _ _ _ _) rfl rfl rfl rfl (Yk rfl) (QC _ _ _ _ _) ?_) | refine A3 ?_)
exact KD (KC 1003 pre.length 1 rfl (oE _ _) rfl rfl (oF _ _ _)) (KD (dZ 1003 1004 pre.length 2 78 5 rfl rfl (oE _ _) rfl (oF _ _ _)) (FQ (.inl rfl) (0,0) (0,1000) (fun k=>if k=1004 then (5,0) else νa k) νa [_,_,_,_,_] [] rfl rfl trivial rfl rfl (Zp rfl (Zp rfl (Zp rfl (Zp rfl (AP _))))) rfl rfl))}
def FR:El->Q3 (Q3 PV)->Q2 El | e,[]=>some e | e,x::l=>(NJ x).bind fun n=>(if n.kind=1 then AM e n.text else EG e n).bind fun e'=>FR e' l
def fit (e:El) (r:Q3 El):Prop:=small e r/\e.cur.length<=9223372036854775807
theorem oH {e:El} {r:Q3 El} {l:Q3 (Q3 PV)} (h:small e r):small (e.setCur l) r:=by{
obtain ⟨kind,tag,count,list,args⟩:=e
refine ⟨h.1,fun q hq=>?_⟩
rcases args with _ | ⟨pre,a⟩
cases hq
by_cases hk:kind=3
have e1:VL.El.setCur ⟨kind,tag,count,list,some (pre,a)⟩ l=⟨kind,tag,count,list,some (pre,⟨a.named,a.name,l⟩)⟩:=if_pos hk
rw [e1] at hq
injection hq with hq
rw [<- hq]
exact h.2 (pre,a) rfl
have e1:VL.El.setCur ⟨kind,tag,count,list,some (pre,a)⟩ l=⟨kind,tag,count,l,some (pre,a)⟩:=if_neg hk
rw [e1] at hq
exact h.2 q hq}
theorem oI (e:El) (l:Q3 (Q3 PV)):(e.setCur l).cur=l:=by{
obtain ⟨kind,tag,count,list,args⟩:=e
rcases args with _ | ⟨pre,a⟩
rfl
by_cases hk:kind=3
have e1:VL.El.setCur ⟨kind,tag,count,list,some (pre,a)⟩ l=⟨kind,tag,count,list,some (pre,⟨a.named,a.name,l⟩)⟩:=if_pos hk
rw [e1]
exact if_pos hk
have e1:VL.El.setCur ⟨kind,tag,count,list,some (pre,a)⟩ l=⟨kind,tag,count,l,some (pre,a)⟩:=if_neg hk
rw [e1]
exact if_neg hk}
theorem eG {l l':Q3 (Q3 PV)} {n:Node} (h:F4 l n=some l'):l'.length<=9223372036854775807:=by
 obtain ⟨_,h2,rfl⟩:=GJ h
 simpa using h2
theorem CF {e e':El} {r:Q3 El} {s:Q1} (hf:fit e r) (h:AM e s=some e'):fit e' r:=by{
unfold AM at h
split at h
injection h with h
rw [<- h]
exact hf
obtain ⟨l',hR,rfl⟩:=Ye.1 h
refine ⟨oH hf.1,?_⟩
rw [oI]
rcases X8 hR with ⟨_,hR⟩ | ⟨init,n,hl,⟨_,y,_,rfl⟩ | ⟨_,hR⟩⟩
exact eG hR
have:=hf.2
rw [hl,G9] at this
rw [G9]
exact this
exact eG hR}
theorem QF {e e':El} {r:Q3 El} {n:Node} (hf:fit e r) (h:EG e n=some e'):fit e' r:=by
 obtain ⟨l',hR,rfl⟩:=Ye.1 h
 exact ⟨oH hf.1,by rw [oI];exact eG hR⟩
theorem oJ {r:Q3 El}:∀ {l:Q3 (Q3 PV)} {e e':El},fit e r->FR e l=some e'->fit e' r
 | [],e,e',hf,h=>by injection h with h;rw [<- h];exact hf
 | x::l,e,e',hf,h=>by
   obtain ⟨n,_,h⟩:=Ya.1 h
   obtain ⟨e1,h1,h⟩:=Ya.1 h
   refine oJ (l:=l) (e:=e1) ?_ h
   split at h1
   exact CF hf h1
   exact QF hf h1
theorem ZyY (l:Q3 (Q3 PV)) (e e2:El) (r:Q3 El) (hf:fit e r) (h:FR e l=some e2) (hl:l.length<=4611686018427387904):PC 114 [.sl l] e r (.tup []) e2 r:=by{
refine ZI mix Tryz.func114 ?_
rw [CT]
repeat refine A3 ?_
refine Zu (fun (a:Nat×El) _=>mkS [(0,Q6),(6,.sl l),(7,Q5 (l.length:Int)),(8,Q5 ((a.1:Nat):Int))] (somes (stP νb a.2 r)) 2) (fun a=>a.1<=l.length/\fit a.2 r/\FR a.2 (l.drop a.1)=some e2) (fun a=>l.length-a.1) (0,e) 2 ⟨YJ _,hf,h⟩
 (CA νa [] (fun k=>(k,νa k)) (fun _ _=>rfl) rfl ⟨rfl,rfl,rfl,rfl,trivial⟩ (x:=[]) (x':=[]) rfl rfl rfl (AP _) rfl) (fun a ng hJ=>?_)
obtain ⟨q,e1⟩:=a
obtain ⟨hq,hf1,hn⟩:=hJ
dsimp only at hq hf1 hn ⊢
repeat refine A3 ?_
by_cases hlt:q<l.length
refine Zv (by (conv=>lhs;whnf);try rfl) (by simp;omega) ?_
rw [Yt hlt] at hn
obtain ⟨n,hx,hn⟩:=Ya.1 hn
obtain ⟨e3,h3,hn⟩:=Ya.1 hn
have hcs:l[q]? = some n.cs:=by rw [Yc hlt,o9 hx]
by_cases hk:n.kind=1
·rw [if_pos hk] at h3
 repeat (first | (refine OS rfl rfl rfl hcs rfl ?_) | refine A3 ?_)
 rw [Yh hk]
 repeat (first | (refine Zv rfl rfl ?_) | (refine ZD [_,_] νb (CN e1 r n.text hf1.1 hf1.2 e3 h3) rfl rfl rfl rfl rfl rfl ?_) | refine MZ rfl rfl (by omega) ?_ | refine A3 ?_)
 exact C7 (q+1,e3) 2 ⟨by omega,CF hf1 h3,hn⟩ (by dsimp only;omega) (CA (νc 5 3) [_,_] (fun k=>(k,νc 5 3 k)) (fun _ _=>rfl) rfl ⟨rfl,rfl,rfl,rfl,trivial⟩ (x:=[]) (x':=[]) rfl rfl rfl (AP _) rfl)
·rw [if_neg hk] at h3
 repeat (first | (refine OS rfl rfl rfl hcs rfl ?_) | refine A3 ?_)
 rw [Yf hk]
 repeat (first | (refine Zk rfl rfl ?_) | (refine ZD [_,_] νb (KE e1 r n hf1.1 e3 h3) rfl rfl rfl rfl rfl rfl ?_) | refine MZ rfl rfl (by omega) ?_ | refine A3 ?_)
 exact C7 (q+1,e3) 2 ⟨by omega,QF hf1 h3,hn⟩ (by dsimp only;omega) (CA (νc 5 2) [_,_] (fun k=>(k,νc 5 2 k)) (fun _ _=>rfl) rfl ⟨rfl,rfl,rfl,rfl,trivial⟩ (x:=[]) (x':=[]) rfl rfl rfl (AP _) rfl)
·refine Zk (by (conv=>lhs;whnf);try rfl) (by simp;omega) ?_
 repeat refine A3 ?_
 obtain rfl:q=l.length:=by omega
 rw [GF] at hn
 cases hn
 exact BW (.inr rfl) νb [] [] rfl rfl trivial rfl rfl}
end
namespace VL
def El.argL (e:El):Q3 Arg:=match e.args with | none=>[] | some (pre,a)=>pre ++ [a]
def El.cells (e:El):Q3 PV:=[.int .i64 e.kind,.int .i64 e.tag,.int .i64 e.count,.sl e.list,.sl (e.argL.map Arg.cs)]
section
variable {NT AT ET:Nat}
theorem TP {pre:Q3 Arg}:∀ el ∈ pre.map Arg.cs,∀ p ∈ el,p.pure=true:=fun el hel p hp=>by
 obtain ⟨a,_,rfl⟩:=Yy.1 hel
 simp [Arg.cs] at hp
 rcases hp with rfl | rfl | rfl<;>rfl
theorem KG {f:Nat->Q2 (Gen×VObj)} {t E k:Nat} {g:Gen} {els:Q3 (Q3 PV)} (h:f t=some (g,.row E k false els)):CO f (.row t g)=some (.sl els,[(t,some (g,.row E k true els))]):=by
 simp [CO,A8,h]
theorem oK {b:Nat} {g g1 g2:Gen} {tm:Q3 (Nat×PV)} {ob:Q3 (Nat×Q2 (Gen×VObj))} {ng:Nat} {k t c:Int} {l els:Q3 (Q3 PV)} (h0:Zn ob b=some (g,.box [.int .i64 k,.int .i64 t,.int .i64 c,.row (b+1) g1,.row (b+2) g2])) (h1:Zn ob (b+1)=some (g1,.row NT 5 false l)) (h2:Zn ob (b+2)=some (g2,.prow AT 3 els))
  (hp:∀ el ∈ els,∀ p ∈ el,p.pure=true):Shift (mkS tm ob ng) (mkS tm ((b,some (g,.box [.int .i64 k,.int .i64 t,.int .i64 c,.sl l,.sl els]))::(b+2,some (g2,.row AT 3 true els))::(b+1,some (g1,.row NT 5 true l))::(b+2,some (g2,.row AT 3 false els))::ob) ng):=by{
have n1:∀ {j i:Nat},j≠i->b+j≠b+i:=fun h e=>h (by omega)
have e0:Zn ((b+2,some (g2,VObj.row AT 3 false els))::ob) b=some (g,.box [.int .i64 k,.int .i64 t,.int .i64 c,.row (b+1) g1,.row (b+2) g2]):=by
 show (if b=b+2 then _ else Zn ob b)=_
 rw [if_neg (by omega),h0]
have e1:Zn ((b+2,some (g2,VObj.row AT 3 false els))::ob) (b+1)=some (g1,.row NT 5 false l):=by
 show (if b+1=b+2 then _ else Zn ob (b+1))=_
 rw [if_neg (by omega),h1]
have e2:Zn ((b+2,some (g2,VObj.row AT 3 false els))::ob) (b+2)=some (g2,.row AT 3 false els):=if_pos rfl
refine Shift.trans (nW (b+2) h2 hp) ?_
exact P1 b e0 (us:=[(b+1,some (g1,.row NT 5 true l)),(b+2,some (g2,.row AT 3 true els))]) (by
 have r1:=KG e1
 have r2:=KG e2
 simp only [AI]
 rw [r1,r2]
 rfl)}
theorem eH (n1:Gen) (ν:Nat->Gen) {e e2:El} {r:Q3 El} {tm tm':Q3 (Nat×PV)} {ng:Nat} (h1:E8 (σf (popf (0,0) n1 (fun _=>(1001,ν 1001)) ν (A5 r))) tm tm') :
  Shift (mkS tm ((0,some ((0,0),.box [.row 1000 n1]))::(1000,some (n1,.prow ET 1 (AO ν (e2::r))))::somes (stO NT AT ET ν e (e2::r))) ng) (mkS tm' (somes ((300,νb 300,.box e.cells)::stO NT AT ET νb e2 r)) 2):=by{
obtain ⟨k,t,c,l,args⟩:=e
have hx:∀ e:El,AK (σf (popf (0,0) n1 (fun _=>(1001,ν 1001)) ν (A5 r))) [(300,νb 300,.box e.cells)]=some [(1001,ν 1001,.box e.cells)]:=fun _=>rfl
rcases args with _ | ⟨pre,a⟩
refine Shift.trans (oK (b:=1001) rfl rfl rfl (fun e he=>absurd he JM)) ?_
exact X5 (0,0) n1 (fun _=>(1001,ν 1001)) ν tm' h1 rfl rfl (hx ⟨k,t,c,l,none⟩) (fun q hq=>by rw [YG.1 hq];exact ⟨by show 1001≠0;omega,by show 1001≠1000;omega,by show 1001<2000;omega⟩) (by simp) (Zp rfl (AP _)) (GP (A:=[_,_,_,_,_,_]) rfl)
have hset:(ES 1001 ν (some (pre,a))).set pre.length (AN [.bool a.named,.sl a.name,.row (1001+3) (ν (1001+3))] 2 [.sl a.value])=(pre ++ [a]).map Arg.cs:=by
 have:=EE (pre.map Arg.cs) [.bool a.named,.sl a.name,.row (1001+3) (ν (1001+3))] a.cs
 rw [Yv] at this
 rw [YR]
 exact this
have hget:(ES 1001 ν (some (pre,a)))[pre.length]? = some [.bool a.named,.sl a.name,.row (1001+3) (ν (1001+3))]:=by
 have:=CX (pre.map Arg.cs) [.bool a.named,.sl a.name,.row (1001+3) (ν (1001+3))]
 rwa [Yv] at this
refine Shift.trans (KC 1003 pre.length 2 rfl hget rfl (KG rfl) hset) ?_
refine Shift.trans (oK (b:=1001) rfl rfl rfl TP) ?_
exact X5 (0,0) n1 (fun _=>(1001,ν 1001)) ν tm' h1 rfl rfl (hx ⟨k,t,c,l,some (pre,a)⟩) (fun q hq=>by rw [YG.1 hq];exact ⟨by show 1001≠0;omega,by show 1001≠1000;omega,by show 1001<2000;omega⟩) (by simp) (Zp rfl (AP _)) (GP (A:=[_,_,_,_,_,_,_,_]) rfl)}
end
section
variable {NT AT ET:Nat} {P:Program} [WInv P] {ops:Array Oper} {draw:Bool} {i:Nat} {L:Q3 Oper} {acc:Q3 (Q3 Nat×Q3 Nat)} {K:FS->Prop} {tm:Q3 (Nat×PV)} {ob:Q3 (Nat×Q2 (Gen×VObj))} {ng:Nat}
 {d:Q2 Tmp} {ty:TypeId} {pos:String} {after:Array Edge} {gd:Q2 (Nat×Bool)}
theorem QG {f:FuncId} {es:Array Operand} {ts:Array TypeId} {e e2:El} {r:Q3 El} (lits:Q3 (Nat×Q2 (Gen×VObj))) (ν:Nat->Gen) (hc:ContractG P f [.ptr 0 (0,0) 0] (objs (stO NT AT ET νa e (e2::r))) (.ptr 1001 (0,1001) 0) (EZ NT AT ET νa (1,1000) e e2 r)) (hob:ob=lits++somes (stO NT AT ET ν e (e2::r))) (hl:(lits.all fun q=>!BN q.1)=true)
  (hw:Zh ops (mkS tm ob ng) ⟨d,.call ⟨.value (.func f),es,ts⟩,ty,pos,after,gd⟩=some true) (he:es.toList.map (evL tm) = [.ptr 0 (ν 0) 0])
  (k:GoL P ops draw (i+1) L (acc ++ [(ZE (mkS tm ob ng) ⟨d,.call ⟨.value (.func f),es,ts⟩,ty,pos,after,gd⟩,(usG (κp id) (objs (stO NT AT ET νa e (e2::r))) (EZ NT AT ET ν (ng,i+1000000 * (1000+1)) e e2 r)).map (·.1))]) (mkS (A6 d (.ptr 1001 (ν 1001) 0) tm) ((0,some (ν 0,.box [.row 1000 (ng,i+1000000 * (1000+1))]))::(1000,some ((ng,i+1000000 * (1000+1)),.prow ET 1 (AO ν (e2::r))))::ob) ng) K) :
  GoL P ops draw i (⟨d,.call ⟨.value (.func f),es,ts⟩,ty,pos,after,gd⟩::L) acc (mkS tm ob ng) K:=by{
have hHas:Has ob (stO NT AT ET ν e (e2::r)):=by rw [hob];exact DL hl
have hk:=o6 (NT:=NT) (AT:=AT) (ET:=ET) ν ng i e (e2::r)
have hn:∀ (ν:Nat->Gen) (n1:Gen),((EZ NT AT ET ν n1 e e2 r).map (·.1)).Nodup:=fun ν n1=>by rw [eF];exact DV _ _ _
have hlow:∀ q ∈ AZ NT AT νa (e2::r),σ1 (EY (objs (stO NT AT ET νa e (e2::r)))) (κp id) (γp ν ν) id ng i (νa q.1)=some (q.1,ν q.1):=fun q hq=>hk q (Yg _ (Yg _ (YK _ hq)))
have hX:AK (σ1 (EY (objs (stO NT AT ET νa e (e2::r)))) (κp id) (γp ν ν) id ng i) (EZ NT AT ET νa (1,1000) e e2 r)=some (EZ NT AT ET ν (ng,i+1000000 * (1000+1)) e e2 r):=by
 have e0:=hk _ (Yi ..)
 have e1:σ1 (EY (objs (stO NT AT ET νa e (e2::r)))) (κp id) (γp ν ν) id ng i (1,1000)=some (1000,(ng,i+1000000 * (1000+1))):=by simp [σ1]
 have hp:=eE hlow
 have he:=G5 (eC (NT:=NT) (AT:=AT) (b:=1001) (ν:=νa) (ν':=ν) (e:=e) fun q hq=>hk q (Yg _ (Yg _ (Yz _ hq)))) (eD hlow)
 simp only [EZ,AK,rnO,rnL,rn1,e0,e1,Yo,hp,he]
have hp:rnP (σ1 (EY (objs (stO NT AT ET νa e (e2::r)))) (κp id) (γp ν ν) id ng i) (.ptr 1001 (0,1001) 0)=some (.ptr 1001 (ν 1001) 0):=by
 have e1:=hk _ (Yg _ (Yg _ (Yz _ (Yi ..))))
 have e2:σ1 (EY (objs (stO NT AT ET νa e (e2::r)))) (κp id) (γp ν ν) id ng i (0,1001)=some (1001,ν 1001):=e1
 simp only [rnP,rn1,e2,Yo]
refine o4 lits ν hc hob hl hw he rfl hp hX (hn _ _) (fun t=>?_) k
rw [X3 (hn _ _)]
by_cases h1:∃ q ∈ EZ NT AT ET ν (ng,i+1000000 * (1000+1)) e e2 r,q.1=t
rw [if_pos h1]
obtain ⟨⟨t',g,o⟩,hq,rfl⟩:=h1
have w:=FN [] (hn _ _) hq
rw [YB] at w
rw [w]
rcases Ys.1 hq with e1 | hq
injection e1 with e1 e2;injection e2 with e2 e3;subst e1 e2 e3;rfl
rcases Ys.1 hq with e1 | hq
injection e1 with e1 e2;injection e2 with e2 e3;subst e1 e2 e3;rfl
have hk2:1001<=t':=by
 rcases YD.1 hq with h | h
 exact (J6 h).1
 have:=(K5 h).1;change 2000<=t' at this;omega
show _=if t'=0 then _ else if t'=1000 then _ else Zn ob t'
rw [if_neg (by omega),if_neg (by omega)]
exact (hHas _ _ _ (Yg _ (Yg _ hq))).symm
rw [if_neg h1,if_neg fun ⟨q,hq,e3⟩=>h1 (by
 obtain ⟨g,hg⟩:=QA (l:=stO NT AT ET νa e (e2::r)) (t:=q.1) (o:=q.2) hq
 have hm2:q.1 ∈ (EZ NT AT ET ν (ng,i+1000000 * (1000+1)) e e2 r).map (·.1):=by
  rw [eF,TL ν νa]
  exact Yy.2 ⟨_,hg,rfl⟩
 obtain ⟨q2,hq2,e4⟩:=Yy.1 hm2
 have hk:κp id q.1=q.1:=by simp [κp]
 exact ⟨q2,hq2,by rw [e4,<- hk];exact e3⟩)]
have t0:¬ t=0:=fun e=>h1 ⟨_,Yi ..,e.symm⟩
have t1:¬ t=1000:=fun e=>h1 ⟨_,Yg _ (Yi ..),e.symm⟩
show _=if t=0 then _ else if t=1000 then _ else Zn ob t
rw [if_neg t0,if_neg t1]}
end
section
variable {NT AT ET:Nat}
theorem oL {f:Nat->Q2 (Gen×VObj)} {t E k:Nat} {g:Gen} {els:Q3 (Q3 PV)} (h:f t=some (g,.row E k true els)):CO f (.row t g)=some (.sl els,[]):=by
 simp [CO,A8,h]
theorem eI {ν:Nat->Gen} {kind tag count m:Int} {list:Q3 (Q3 PV)} {args:Q2 (Q3 Arg×Arg)} {r:Q3 El} {lits:Q3 (Nat×Q2 (Gen×VObj))} {tm:Q3 (Nat×PV)} {ng:Nat} (hl:(lits.all fun q=>!BN q.1)=true) :
  Shift (mkS tm ((1001,some (ν 1001,.box [.int .i64 kind,.int .i64 tag,.int .i64 m,.row 1002 (ν 1002),.row 1003 (ν 1003)]))::(lits++somes (stO NT AT ET ν ⟨kind,tag,count,list,args⟩ r))) ng) (mkS tm (lits++somes (stO NT AT ET ν ⟨kind,tag,m,list,args⟩ r)) ng):=by{
rw [TM (ob':=lits++somes (stO NT AT ET ν ⟨kind,tag,m,list,args⟩ r)) fun t=>?_]
exact Shift.refl _
show (if t=1001 then _ else Zn (lits++somes (stO NT AT ET ν ⟨kind,tag,count,list,args⟩ r)) t)=_
by_cases ht:t=1001
rw [if_pos ht,ht]
have hm:(1001,ν 1001,VObj.box [.int .i64 kind,.int .i64 tag,.int .i64 m,.row 1002 (ν 1002),.row 1003 (ν 1003)]) ∈ stO NT AT ET ν ⟨kind,tag,m,list,args⟩ r:=Yg _ (Yg _ (Yz _ (Yi ..)))
exact (DL hl _ _ _ hm).symm
rw [if_neg ht]
have two:∀ (a:Q3 (Nat×Q2 (Gen×VObj))),Zn (a++somes (stO NT AT ET ν ⟨kind,tag,count,list,args⟩ r)) t=Zn (a++somes (stO NT AT ET ν ⟨kind,tag,m,list,args⟩ r)) t:=fun a=>by
 induction a with
 | nil=>
   show (if t=0 then _ else if t=1000 then _ else if t=1001 then _ else _)=(if t=0 then _ else if t=1000 then _ else if t=1001 then _ else _)
   by_cases h0:t=0
   rw [if_pos h0,if_pos h0]
   rw [if_neg h0,if_neg h0]
   by_cases h1:t=1000
   rw [if_pos h1,if_pos h1]
   rw [if_neg h1,if_neg h1,if_neg ht,if_neg ht]
 | cons q a ih=>
   show (if t=q.1 then q.2 else Zn (a++_) t)=if t=q.1 then q.2 else Zn (a++_) t
   rw [ih]
exact two lits}
theorem M5 {b u:Nat} {g g1 g2:Gen} {tm:Q3 (Nat×PV)} {ob:Q3 (Nat×Q2 (Gen×VObj))} {ng:Nat} {k t:Int} {s:Q1} {l els:Q3 (Q3 PV)} (hu:u≠b+2) (h0:Zn ob u=some (g,.box [.int .i64 k,.int .i64 t,.str s,.row (b+1) g1,.row (b+2) g2])) (h1:Zn ob (b+1)=some (g1,.row NT 5 false l)) (h2:Zn ob (b+2)=some (g2,.prow AT 3 els))
  (hp:∀ el ∈ els,∀ p ∈ el,p.pure=true):Shift (mkS tm ob ng) (mkS tm ((u,some (g,.box [.int .i64 k,.int .i64 t,.str s,.sl l,.sl els]))::(b+2,some (g2,.row AT 3 true els))::(b+1,some (g1,.row NT 5 true l))::(b+2,some (g2,.row AT 3 false els))::ob) ng):=by{
have e0:Zn ((b+2,some (g2,VObj.row AT 3 false els))::ob) u=some (g,.box [.int .i64 k,.int .i64 t,.str s,.row (b+1) g1,.row (b+2) g2]):=by
 show (if u=b+2 then _ else Zn ob u)=_
 rw [if_neg hu,h0]
have e1:Zn ((b+2,some (g2,VObj.row AT 3 false els))::ob) (b+1)=some (g1,.row NT 5 false l):=by
 show (if b+1=b+2 then _ else Zn ob (b+1))=_
 rw [if_neg (by omega),h1]
have e2:Zn ((b+2,some (g2,VObj.row AT 3 false els))::ob) (b+2)=some (g2,.row AT 3 false els):=if_pos rfl
refine Shift.trans (nW (b+2) h2 hp) ?_
exact P1 u e0 (us:=[(b+1,some (g1,.row NT 5 true l)),(b+2,some (g2,.row AT 3 true els))]) (by
 have r1:=KG e1
 have r2:=KG e2
 simp only [AI]
 rw [r1,r2]
 rfl)}
theorem oM {b:Nat} {g g1 g2:Gen} {tm:Q3 (Nat×PV)} {ob:Q3 (Nat×Q2 (Gen×VObj))} {ng:Nat} {k t c:Int} {l els:Q3 (Q3 PV)} (h0:Zn ob b=some (g,.box [.int .i64 k,.int .i64 t,.int .i64 c,.row (b+1) g1,.row (b+2) g2])) (h1:Zn ob (b+1)=some (g1,.row NT 5 true l)) (h2:Zn ob (b+2)=some (g2,.row AT 3 true els)) :
  Shift (mkS tm ob ng) (mkS tm ((b,some (g,.box [.int .i64 k,.int .i64 t,.int .i64 c,.sl l,.sl els]))::ob) ng):=
 P1 b h0 (us:=[]) (by
  have r1:=oL h1
  have r2:=oL h2
  simp only [AI]
  rw [r1,r2]
  rfl)
theorem eJ (n1 g8:Gen) (ν:Nat->Gen) {e e2:El} {r:Q3 El} {k t:Int} {s:Q1} {tm tm':Q3 (Nat×PV)} {ng:Nat} (h1:E8 (σf (popf (0,0) n1 (fun k=>if k=8 then (8,g8) else (1001,ν 1001)) ν (A5 r))) tm tm') :
  Shift (mkS tm ((0,some ((0,0),.box [.row 1000 n1]))::(1000,some (n1,.prow ET 1 (AO ν (e2::r))))::(8,some (g8,.box [.int .i64 k,.int .i64 t,.str s,.row 1002 (ν 1002),.row 1003 (ν 1003)]))::somes (stO NT AT ET ν e (e2::r))) ng)
   (mkS tm' (somes ((8,νb 8,.box [.int .i64 k,.int .i64 t,.str s,.sl e.list,.sl (e.argL.map Arg.cs)])::(300,νb 300,.box e.cells)::stO NT AT ET νb e2 r)) 2):=by{
obtain ⟨k1,t1,c,l,args⟩:=e
have hx:∀ e:El,AK (σf (popf (0,0) n1 (fun k=>if k=8 then (8,g8) else (1001,ν 1001)) ν (A5 r))) [(8,νb 8,.box [.int .i64 k,.int .i64 t,.str s,.sl e.list,.sl (e.argL.map Arg.cs)]),(300,νb 300,.box e.cells)]=some [(8,g8,.box [.int .i64 k,.int .i64 t,.str s,.sl e.list,.sl (e.argL.map Arg.cs)]),(1001,ν 1001,.box e.cells)]:=fun _=>rfl
have hX:∀ e:El,∀ q ∈ [(8,g8,VObj.box [.int .i64 k,.int .i64 t,.str s,.sl e.list,.sl (e.argL.map Arg.cs)]),(1001,ν 1001,.box e.cells)],q.1≠0/\q.1≠1000/\q.1<2000:=fun e q hq=>by
 rcases Ys.1 hq with rfl | hq
 exact ⟨by show 8≠0;omega,by show 8≠1000;omega,by show 8<2000;omega⟩
 rw [YG.1 hq]
 exact ⟨by show 1001≠0;omega,by show 1001≠1000;omega,by show 1001<2000;omega⟩
rcases args with _ | ⟨pre,a⟩
refine Shift.trans (M5 (b:=1001) (u:=8) (by omega) rfl rfl rfl (fun e he=>absurd he JM)) ?_
refine Shift.trans (oM (b:=1001) rfl rfl rfl) ?_
exact X5 (0,0) n1 _ ν tm' h1 rfl rfl (hx ⟨k1,t1,c,l,none⟩) (hX ⟨k1,t1,c,l,none⟩) (by simp) (Zp rfl (Zp rfl (AP _))) (GP (A:=[_,_,_,_,_,_,_,_]) rfl)
have hset:(ES 1001 ν (some (pre,a))).set pre.length (AN [.bool a.named,.sl a.name,.row (1001+3) (ν (1001+3))] 2 [.sl a.value])=(pre ++ [a]).map Arg.cs:=by
 have:=EE (pre.map Arg.cs) [.bool a.named,.sl a.name,.row (1001+3) (ν (1001+3))] a.cs
 rw [Yv] at this
 rw [YR]
 exact this
have hget:(ES 1001 ν (some (pre,a)))[pre.length]? = some [.bool a.named,.sl a.name,.row (1001+3) (ν (1001+3))]:=by
 have:=CX (pre.map Arg.cs) [.bool a.named,.sl a.name,.row (1001+3) (ν (1001+3))]
 rwa [Yv] at this
refine Shift.trans (KC 1003 pre.length 2 rfl hget rfl (KG rfl) hset) ?_
refine Shift.trans (M5 (b:=1001) (u:=8) (by omega) rfl rfl rfl TP) ?_
refine Shift.trans (oM (b:=1001) rfl rfl rfl) ?_
exact X5 (0,0) n1 _ ν tm' h1 rfl rfl (hx ⟨k1,t1,c,l,some (pre,a)⟩) (hX ⟨k1,t1,c,l,some (pre,a)⟩) (by simp) (Zp rfl (Zp rfl (AP _))) (GP (A:=[_,_,_,_,_,_,_,_,_,_]) rfl)}
def newf (m2 m3:Gen) (k2 k3:Nat) (ν:Nat->Gen) (k:Nat):Nat×Gen:=if k=1002 then (k2,m2) else if k=1003 then (k3,m3) else (k,ν k)
theorem QH (m2 m3:Gen) (k2 k3:Nat) (ν:Nat->Gen) (h00:ν 0=(0,0)) {r:Q3 El} {kind tag count:Int} {list:Q3 (Q3 PV)} {tm tm':Q3 (Nat×PV)} {ob:Q3 (Nat×Q2 (Gen×VObj))} {ng:Nat} (h1:E8 (σf (newf m2 m3 k2 k3 ν)) tm tm') (a0:Zn ob 0=some (ν 0,.box [.row 1000 (ν 1000)])) (a1:Zn ob 1000=some (ν 1000,.prow ET 1 (AO ν r ++ [[.ptr 1001 (ν 1001) 0]])))
  (b1:Zn ob 1001=some (ν 1001,.box [.int .i64 kind,.int .i64 tag,.int .i64 count,.row k2 m2,.row k3 m3])) (b2:Zn ob k2=some (m2,.row NT 5 false list)) (b3:Zn ob k3=some (m3,.prow AT 3 [])) (hk:(decide ([k2,k3].Nodup) && [k2,k3].all fun k=>!BN k)=true) (a3:Has ob (AZ NT AT ν r)) :
  Shift (mkS tm ob ng) (mkS tm' (somes (stO NT AT ET νb ⟨kind,tag,count,list,none⟩ r)) 2):=by{
have hl:∀ k,2000<=k->σf (newf m2 m3 k2 k3 ν) (νb k)=some (k,ν k):=fun k hk=>by
 have h1:¬ k=0:=by omega
 have h2:¬ k=1002:=by omega
 have h3:¬ k=1003:=by omega
 simp [σf,νb,newf,h1,h2,h3]
have e0:σf (newf m2 m3 k2 k3 ν) (νb 0)=some (0,ν 0):=by rw [h00];rfl
have e1:σf (newf m2 m3 k2 k3 ν) (νb 1000)=some (1000,ν 1000):=rfl
have e2:σf (newf m2 m3 k2 k3 ν) (νb 1001)=some (1001,ν 1001):=rfl
have e3:σf (newf m2 m3 k2 k3 ν) (νb (1001+1))=some (k2,m2):=rfl
have e4:σf (newf m2 m3 k2 k3 ν) (νb (1001+2))=some (k3,m3):=rfl
have hp:AY (σf (newf m2 m3 k2 k3 ν)) (AO νb r ++ [[.ptr 1001 (νb 1001) 0]])=some (AO ν r ++ [[.ptr 1001 (ν 1001) 0]]):=GL (P6 hl r) (by simp only [AY,rnL,rn1,e2,Yo])
have he:=P5 (NT:=NT) (AT:=AT) hl r
have h2:AK (σf (newf m2 m3 k2 k3 ν)) (stO NT AT ET νb ⟨kind,tag,count,list,none⟩ r)=some ((0,ν 0,.box [.row 1000 (ν 1000)])::(1000,ν 1000,.prow ET 1 (AO ν r ++ [[.ptr 1001 (ν 1001) 0]]))::(1001,ν 1001,.box [.int .i64 kind,.int .i64 tag,.int .i64 count,.row k2 m2,.row k3 m3])::(k2,m2,.row NT 5 false list)::(k3,m3,.prow AT 3 [])::AZ NT AT ν r):=by
 have key:∀ X,elO NT AT 1001 νb ⟨kind,tag,count,list,none⟩++X=(1001,νb 1001,.box [.int .i64 kind,.int .i64 tag,.int .i64 count,.row (1001+1) (νb (1001+1)),.row (1001+2) (νb (1001+2))])::(1001+1,νb (1001+1),.row NT 5 false list)::(1001+2,νb (1001+2),.prow AT 3 [])::X:=fun _=>rfl
 unfold stO
 rw [key]
 simp only [AK,rnO,rnL,AY,rn1,e0,e1,e2,e3,e4,Yo,hp,he]
simp only [YH,YT,Yq,I5] at hk
obtain ⟨hn,hpk⟩:=hk
have hpk':∀ k ∈ [k2,k3],¬ (k=0\/1000<=k):=fun k hk h=>by
 have:=hpk k hk
 rw [LZ h] at this
 cases this
refine KA _ h1 h2 (Zp a0 (Zp a1 (Zp b1 (Zp b2 (Zp b3 a3))))) ?_
have hrest:∀ k ∈ (AZ NT AT ν r).map (·.1),2000<=k:=fun k hk=>by
 obtain ⟨q,hq,rfl⟩:=Yy.1 hk
 exact (K5 hq).1
have p2:=hpk' k2 (by simp)
have p3:=hpk' k3 (by simp)
simp only [GH,Ys,JM,or_false] at hn
obtain ⟨n23,_⟩:=hn
simp only [YO,GH,Ys,not_or]
refine ⟨⟨by omega,by omega,by omega,by omega,fun h=>by have:=hrest _ h;omega⟩,⟨by omega,by omega,by omega,fun h=>by have:=hrest _ h;omega⟩,⟨by omega,by omega,fun h=>by have:=hrest _ h;omega⟩,⟨n23,fun h=>by have:=hrest _ h;omega⟩,fun h=>by have:=hrest _ h;omega,W5 ν r⟩}
end
end VL
section
open VL
def DP (e:El) (l:Q3 (Q3 PV)):Q2 El:=if l.length<=4611686018427387904 then FR e l else none
theorem NK {r:Q3 El} {l:Q3 (Q3 PV)} {e e':El} (hf:fit e r) (h:DP e l=some e'):fit e' r:=by{
unfold DP at h
split at h
exact oJ hf h
cases h}
theorem TQ (l:Q3 (Q3 PV)) (e e2:El) (r:Q3 El) (hf:fit e r) (h:DP e l=some e2):PC 114 [.sl l] e r (.tup []) e2 r:=by{
unfold DP at h
split at h
rename_i hl
exact ZyY l e e2 r hf h hl
cases h}
def KH (e:El) (r:Q3 El):Q2 (El×Q3 El):=if e.kind=1 then match r with | []=>none | e2::r=>(AM e2 ⟨#[91,91]⟩).bind fun a=>(DP a e.list).bind fun b=>(AM b ⟨#[93,93]⟩).map fun c=>(c,r) else (AM e ⟨#[93,93]⟩).map fun c=>(c,r)
theorem Zme (e e':El) (r:Q3 El) (hf:fit e r) (hk:e.kind≠1) (h:AM e ⟨#[93,93]⟩=some e'):PC 108 [] e r (.tup []) e' r:=by{
refine ZI mix Tryz.func108 ?_
rw [CT]
repeat (first | (refine CB [] νa (CE e r hf.1.1) rfl rfl rfl rfl rfl rfl ?_) | refine A3 ?_)
rw [Yf hk]
repeat (first | (refine Zv rfl rfl ?_) | (refine ZD [] νa (CN e r _ hf.1 hf.2 e' h) rfl rfl rfl rfl rfl rfl ?_) | refine A3 ?_)
exact BW (.inl rfl) (νc 2 1) [] [] rfl rfl trivial rfl rfl}
theorem Znt (tag count:Int) (list:Q3 (Q3 PV)) (args:Q2 (Q3 Arg×Arg)) (e2 a b c:El) (r:Q3 El) (hr:r.length<=999) (hf:fit e2 r) (h1:AM e2 ⟨#[91,91]⟩=some a) (h2:DP a list=some b) (h3:AM b ⟨#[93,93]⟩=some c) :
  PC 108 [] ⟨1,tag,count,list,args⟩ (e2::r) (.tup []) c r:=by{
have hfa:=CF hf h1
have hfb:=NK hfa h2
refine ZI mix Tryz.func108 ?_
rw [CT]
repeat (first | (refine CB [] νa (CE _ (e2::r) (by simp;omega)) rfl rfl rfl rfl rfl rfl ?_) | (refine Zk rfl rfl ?_) | refine A3 ?_)
refine QG [] νa (QD _ e2 r hr) rfl rfl rfl rfl ?_
iterate 2 (refine A3 ?_)
refine CU (eH (2,1+1000000 * (1000+1)) νa (tm':=[(0,.ptr 0 (0,0) 0),(2,.ptr 300 (1,300) 0)]) ⟨rfl,rfl,trivial⟩) ?_ (CY _ _)
repeat (first | (refine ZD [_] νb (CN e2 r _ hf.1 hf.2 a h1) rfl rfl rfl rfl rfl rfl ?_) | (refine ZD [_] (νc _ _) (TQ list a b r hfa h2) rfl rfl rfl rfl rfl rfl ?_) | (refine ZD [_] (νc _ _) (CN b r _ hfb.1 hfb.2 c h3) rfl rfl rfl rfl rfl rfl ?_) | refine A3 ?_)
exact BW (.inr rfl) (νc 4 1) [_] [] rfl rfl trivial rfl rfl}
def JC (e e2:El):Q2 El:=if e.kind=1 then AM e2 ⟨#[91,91]⟩ else if e.kind=2 then (LQ e.tag).bind fun s=>AM e2 s else if e.kind=3 then (strings_Repeat ⟨#[123]⟩ e.count).bind fun s=>AM e2 s else some e2
def M6 (e:El) (a:Arg):Q2 El:=(AM e ⟨#[124]⟩).bind fun b=>((if a.named=true then (DP b a.name).bind fun c=>AM c ⟨#[61]⟩ else some b):Q2 El).bind fun d=>DP d a.value
def IK:El->Q3 Arg->Q2 El | e,[]=>some e | e,a::l=>(M6 e a).bind fun e'=>IK e' l
def JD (e e2:El):Q2 El:=(JC e e2).bind fun a=>(DP a e.list).bind fun b=>if e.argL.length<=4611686018427387904 then IK b e.argL else none
theorem oN {e e2 a:El} {r:Q3 El} (hf:fit e2 r) (h:JC e e2=some a):fit a r:=by{
unfold JC at h
split at h
exact CF hf h
split at h
obtain ⟨s,_,h⟩:=Ya.1 h
exact CF hf h
split at h
obtain ⟨s,_,h⟩:=Ya.1 h
exact CF hf h
injection h with h
rw [<- h]
exact hf}
theorem oO {e e':El} {a:Arg} {r:Q3 El} (hf:fit e r) (h:M6 e a=some e'):fit e' r:=by{
obtain ⟨b,hb,h⟩:=Ya.1 h
obtain ⟨d,hd,h⟩:=Ya.1 h
refine NK ?_ h
split at hd
obtain ⟨c,hc,hd⟩:=Ya.1 hd
exact CF (NK (CF hf hb) hc) hd
injection hd with hd
rw [<- hd]
exact CF hf hb}
abbrev TR (ν:Nat->Gen) (k:Nat):Nat×Gen:=if k=300 then (300,νb 300) else (k,ν k)
theorem X9 {ν:Nat->Gen} (k:Nat) (h:k=0\/1000<=k):TR ν k=(k,ν k):=if_neg (by omega)
theorem eK (e e2 e3:El) (r:Q3 El) (hr:r.length<=999) (hf:fit e2 r) (h:JD e e2=some e3):PC 64 [] e (e2::r) (.tup []) e3 r:=by{
obtain ⟨a0,ha0,h⟩:=Ya.1 h
obtain ⟨b0,hb0,h4⟩:=Ya.1 h
by_cases hal:e.argL.length<=4611686018427387904
rotate_left
rw [if_neg hal] at h4
cases h4
rw [if_pos hal] at h4
have hfa:=oN hf ha0
have hfb:=NK hfa hb0
refine ZI mix Tryz.func64 ?_
rw [CT]
repeat refine A3 ?_
refine QG [] νa (QD e e2 r hr) rfl rfl rfl rfl ?_
iterate 2 (refine A3 ?_)
refine CU (eH (1,1+1000000 * (1000+1)) νa (tm':=[(0,.ptr 0 (0,0) 0),(2,.ptr 300 (1,300) 0)]) ⟨rfl,rfl,trivial⟩) ?_ (CY _ _)
repeat (first | (refine DA (α:=El) (c:=.block 0 _) (fun a _=>mkS [(0,Q6),(2,.ptr 300 (1,300) 0)] (somes ((300,νb 300,.box e.cells)::stP νb a r)) 2) (fun a=>a=a0) ?_ (fun a _ hJ=>?_)) | refine A3 ?_)
unfold JC at ha0
by_cases h1:e.kind=1
·rw [if_pos h1] at ha0
 rw [Yh h1]
 repeat (first | (refine Zv rfl rfl ?_) | (refine ZD [_] νb (CN e2 r _ hf.1 hf.2 a0 ha0) rfl rfl rfl rfl rfl rfl ?_) | refine A3 ?_)
 exact LG a0 2 rfl (CA (νc 4 1) [_] (TR (νc 4 1)) X9 rfl ⟨rfl,rfl,trivial⟩ (x:=[(300,νb 300,.box e.cells)]) (x':=[(300,νb 300,.box e.cells)]) rfl rfl rfl (Zp rfl (AP _)) rfl)
·rw [if_neg h1] at ha0
 rw [Yf h1]
 repeat (first | (refine Zk rfl rfl ?_) | refine A3 ?_)
 by_cases h2:e.kind=2
 ·rw [if_pos h2] at ha0
  obtain ⟨s,hs,ha0⟩:=Ya.1 ha0
  rw [Yh h2]
  repeat (first | (refine Zv rfl rfl ?_) | (refine DU (Zk7 _ _ hs) rfl rfl ?_) | (refine ZD [_] νb (CN e2 r s hf.1 hf.2 a0 ha0) rfl rfl rfl rfl rfl rfl ?_) | refine A3 ?_)
  exact LG a0 2 rfl (CA (νc 5 6) [_] (TR (νc 5 6)) X9 rfl ⟨rfl,rfl,trivial⟩ (x:=[(300,νb 300,.box e.cells)]) (x':=[(300,νb 300,.box e.cells)]) rfl rfl rfl (Zp rfl (AP _)) rfl)
 ·rw [if_neg h2] at ha0
  rw [Yf h2]
  repeat (first | (refine Zk rfl rfl ?_) | refine A3 ?_)
  by_cases h3:e.kind=3
  ·rw [if_pos h3] at ha0
   obtain ⟨s,hs,ha0⟩:=Ya.1 ha0
   rw [Yh h3]
   repeat (first | (refine Zv rfl rfl ?_) | (refine DU (dC _ _ _ hs) rfl rfl ?_) | (refine ZD [_] νb (CN e2 r s hf.1 hf.2 a0 ha0) rfl rfl rfl rfl rfl rfl ?_) | refine A3 ?_)
   exact LG a0 2 rfl (CA (νc 6 6) [_] (TR (νc 6 6)) X9 rfl ⟨rfl,rfl,trivial⟩ (x:=[(300,νb 300,.box e.cells)]) (x':=[(300,νb 300,.box e.cells)]) rfl rfl rfl (Zp rfl (AP _)) rfl)
  ·rw [if_neg h3] at ha0
   cases ha0
   rw [Yf h3]
   repeat (first | (refine Zk rfl rfl ?_) | refine A3 ?_)
   exact LG e2 2 rfl (CA (νb) [_] (TR (νb)) X9 rfl ⟨rfl,rfl,trivial⟩ (x:=[(300,νb 300,.box e.cells)]) (x':=[(300,νb 300,.box e.cells)]) rfl rfl rfl (Zp rfl (AP _)) rfl)
·subst hJ
 repeat (first | (refine ZD [_] νb (TQ e.list _ b0 r hfa hb0) rfl rfl rfl rfl rfl rfl ?_) | refine A3 ?_)
 refine Zu (fun (a:Nat×El) _=>mkS [(0,Q6),(42,.sl (e.argL.map Arg.cs)),(43,Q5 ((e.argL.map Arg.cs).length:Int)),(44,Q5 ((a.1:Nat):Int))] (somes (stP νb a.2 r)) 2) (fun a=>a.1<=e.argL.length/\fit a.2 r/\IK a.2 (e.argL.drop a.1)=some e3) (fun a=>e.argL.length-a.1) (0,b0) 2 ⟨YJ _,hfb,h4⟩
  (CA (νc 2 5) [_] (fun k=>(k,νc 2 5 k)) (fun _ _=>rfl) rfl ⟨rfl,rfl,rfl,rfl,trivial⟩ (x:=[]) (x':=[]) rfl rfl rfl (AP _) rfl) (fun a ng hJ=>?_)
 obtain ⟨q,e1⟩:=a
 obtain ⟨hq,hf1,hn⟩:=hJ
 dsimp only at hq hf1 hn ⊢
 repeat refine A3 ?_
 by_cases hlt:q<e.argL.length
 ·refine Zv (by (conv=>lhs;whnf);try rfl) (by simp;omega) ?_
  rw [Yt hlt] at hn
  obtain ⟨e5,h5,hn⟩:=Ya.1 hn
  have hf5:=oO hf1 h5
  have hcs:(e.argL.map Arg.cs)[q]? = some (Arg.cs e.argL[q]):=by rw [Yw,Yc hlt];rfl
  generalize e.argL[q]=ar at hcs h5
  obtain ⟨named,name,value⟩:=ar
  obtain ⟨b,hb,h5⟩:=Ya.1 h5
  obtain ⟨d,hd,h5⟩:=Ya.1 h5
  have hfb2:=CF hf1 hb
  cases named with
  | true=>
    rw [if_pos rfl] at hd
    obtain ⟨c,hc,hd⟩:=Ya.1 hd
    have hfc:=NK hfb2 hc
    have hfd:=CF hfc hd
    repeat (first | (refine OS rfl rfl rfl hcs rfl ?_) | (refine Zv rfl rfl ?_) | (refine ZD [_,_] νb (CN e1 r _ hf1.1 hf1.2 b hb) rfl rfl rfl rfl rfl rfl ?_) | (refine ZD [_,_] (νc _ _) (TQ name b c r hfb2 hc) rfl rfl rfl rfl rfl rfl ?_) | (refine ZD [_,_] (νc _ _) (CN c r _ hfc.1 hfc.2 d hd) rfl rfl rfl rfl rfl rfl ?_) | (refine ZD [_,_] (νc _ _) (TQ value d e5 r hfd h5) rfl rfl rfl rfl rfl rfl ?_) | refine MZ rfl rfl (by omega) ?_ | refine A3 ?_)
    exact C7 (q+1,e5) 2 ⟨by omega,hf5,hn⟩ (by dsimp only;omega) (CA (νc 8 3) [_,_] (fun k=>(k,νc 8 3 k)) (fun _ _=>rfl) rfl ⟨rfl,rfl,rfl,rfl,trivial⟩ (x:=[]) (x':=[]) rfl rfl rfl (AP _) rfl)
  | false=>
    rw [if_neg RO] at hd
    cases hd
    repeat (first | (refine OS rfl rfl rfl hcs rfl ?_) | (refine Zk rfl rfl ?_) | (refine ZD [_,_] νb (CN e1 r _ hf1.1 hf1.2 b hb) rfl rfl rfl rfl rfl rfl ?_) | (refine ZD [_,_] (νc _ _) (TQ value b e5 r hfb2 h5) rfl rfl rfl rfl rfl rfl ?_) | refine MZ rfl rfl (by omega) ?_ | refine A3 ?_)
    exact C7 (q+1,e5) 2 ⟨by omega,hf5,hn⟩ (by dsimp only;omega) (CA (νc 6 3) [_,_] (fun k=>(k,νc 6 3 k)) (fun _ _=>rfl) rfl ⟨rfl,rfl,rfl,rfl,trivial⟩ (x:=[]) (x':=[]) rfl rfl rfl (AP _) rfl)
 ·refine Zk (by (conv=>lhs;whnf);try rfl) (by simp;omega) ?_
  repeat refine A3 ?_
  obtain rfl:q=e.argL.length:=by omega
  rw [GF] at hn
  cases hn
  exact BW (.inr rfl) νb [] [] rfl rfl trivial rfl rfl}
end
section
namespace VL
section
variable {P:Program} [WInv P] {ops:Array Oper} {draw:Bool} {i:Nat} {L:Q3 Oper} {acc:Q3 (Q3 Nat×Q3 Nat)} {K:FS->Prop} {tm:Q3 (Nat×PV)} {ob:Q3 (Nat×Q2 (Gen×VObj))} {ng:Nat}
 {d:Q2 Tmp} {ty:TypeId} {pos:String} {after:Array Edge} {gd:Q2 (Nat×Bool)}
theorem XA {x:Operand} {T:TypeId} {agg:Bool} {n:Nat} [h:Ld P T agg n] (hw:Zh ops (mkS tm ob ng) ⟨d,.load T x,ty,pos,after,gd⟩=some true) {cs:Q3 PV} {t off:Nat} {g:Gen} {v:PV} (hx:evL tm x = .ptr t g off) (hb:Zn ob t=some (g,.box cs)) (hv:JV agg n (cs.drop off)=some v)
  (k:GoL P ops draw (i+1) L (acc ++ [(ZE (mkS tm ob ng) ⟨d,.load T x,ty,pos,after,gd⟩,[])]) (mkS (A6 d v tm) ob ng) K):GoL P ops draw i (⟨d,.load T x,ty,pos,after,gd⟩::L) acc (mkS tm ob ng) K:=by
 refine ZL (cs:=cs.drop off) hw ?_ hv k
 rw [hx]
 simp only [GI,A8,hb,if_true]
end
theorem oP {ν:Nat->Gen} {NT AT:Nat} {e':El} {r':Q3 El}:∀ {r:Q3 El},(e'::r') <:+ r->(AO ν r)[r'.length]? = some [.ptr (A5 r') (ν (A5 r')) 0]/\(A5 r',ν (A5 r'),VObj.box [.int .i64 e'.kind,.int .i64 e'.tag,.int .i64 e'.count,.row (A5 r'+1) (ν (A5 r'+1)),.row (A5 r'+2) (ν (A5 r'+2))]) ∈ AZ NT AT ν r
 | [],h=>by cases List.suffix_nil.1 h
 | x::r,h=>by
   rcases List.suffix_cons_iff.1 h with h | h
   injection h with h1 h2
   subst h1 h2
   exact ⟨by unfold AO;have:=eB ν r' [.ptr (A5 r') (ν (A5 r')) 0];exact this,Yz _ (Yi ..)⟩
   obtain ⟨h1,h2⟩:=oP (NT:=NT) (AT:=AT) h
   refine ⟨?_,YK _ h2⟩
   unfold AO
   rw [I2 (Yd.1 h1).1]
   exact h1
theorem oQ {ν:Nat->Gen} {NT AT ET:Nat} {e e':El} {r r':Q3 El} (h:(e'::r') <:+ (e::r)):∃ b c1 c2,(AO ν r ++ [[.ptr 1001 (ν 1001) 0]])[r'.length]? = some [.ptr b (ν b) 0]/\(b,ν b,VObj.box [.int .i64 e'.kind,.int .i64 e'.tag,.int .i64 e'.count,c1,c2]) ∈ stO NT AT ET ν e r:=by{
rcases List.suffix_cons_iff.1 h with h | h
injection h with h1 h2
subst h1 h2
exact ⟨1001,_,_,eB ν r' _,Yg _ (Yg _ (Yz _ (Yi ..)))⟩
obtain ⟨h1,h2⟩:=oP (NT:=NT) (AT:=AT) (ν:=ν) h
refine ⟨_,_,_,?_,Yg _ (Yg _ (YK _ h2))⟩
rw [I2 (Yd.1 h1).1]
exact h1}
end VL
open VL
def ZU:El->Q3 El->Nat | _,[]=>0 | e,e2::r=>if e.kind=2 then 0 else if e.kind=3 then r.length+1 else ZU e2 r
def BQ (k:Int):El->Q3 El->Nat | _,[]=>0 | e,e2::r=>if e.kind=2/\e.tag=k then r.length+1 else BQ k e2 r
theorem NL {e:El} {r:Q3 El} {tm tm':Q3 (Nat×PV)} {ng:Nat} (h1:E8 (σf fun k=>(k,νa k)) tm tm'):Shift (mkS tm (somes (stP νa e r)) ng) (mkS tm' (somes (stP νa e r)) 2):=
 KA _ h1 (P7 (ν:=νa) (ν':=νa) (fun _ _=>rfl) e r) (DL (lits:=[]) rfl) (DV _ _ _)
theorem ZpF (e:El) (r:Q3 El) (hr:r.length<=1000):ContractG Q7 171 [.ptr 0 (0,0) 0] (objs (stP νa e r)) (.int .i64 (ZU e r:Int)) (stP νa e r):=by{
refine ZI mix Tryz.func171 ?_
rw [CT]
repeat (first | (refine CM rfl rfl (ED _ _ _) ?_) | (refine EP rfl rfl rfl (by omega) ?_) | refine A3 ?_)
refine Zu (fun (a:El×Q3 El) _=>mkS [(0,Q6),(3,Q5 (a.2.length:Int))] (somes (stP νa e r)) 2) (fun a=>(a.1::a.2) <:+ (e::r)/\ZU a.1 a.2=ZU e r) (fun a=>a.2.length) (e,r) 2 ⟨List.suffix_refl _,rfl⟩ (NL ⟨rfl,rfl,trivial⟩) (fun a ng hJ=>?_)
obtain ⟨e1,r1⟩:=a
obtain ⟨hsuf,hlb⟩:=hJ
dsimp only at hsuf hlb ⊢
have hlt:r1.length<r.length+1:=by have:=hsuf.length_le;simp at this;omega
obtain ⟨b,c1,c2,hp,hm⟩:=oQ (ν:=νa) (NT:=78) (AT:=111) (ET:=98) hsuf
have hb:=DL (lits:=[]) rfl _ _ _ hm
rcases r1 with _ | ⟨e2,r2⟩
·repeat (first | (refine Zw rfl ?_) | (refine Zk rfl rfl ?_) | refine A3 ?_)
 rw [<- hlb]
 exact KB (Shift.refl _) rfl rfl (DL (lits:=[]) rfl)
·have h0:decide ((0:Int)<(((e2::r2).length:Nat):Int))=true:=Yh (by simp)
 repeat refine A3 ?_
 rw [h0]
 repeat (first | (refine LJ rfl rfl rfl rfl (by rw [ED];exact hlt) ?_) | (refine G4 rfl rfl rfl hp rfl ?_) | (refine XA rfl rfl hb rfl ?_) | refine A3 ?_)
 by_cases h2:e1.kind=2
 ·rw [Yh h2]
  repeat (first | (refine Zk rfl rfl ?_) | refine A3 ?_)
  rw [show ZU e r=0 by rw [<- hlb];simp only [ZU,if_pos h2]]
  exact KB (Shift.refl _) rfl rfl (DL (lits:=[]) rfl)
 ·rw [Yf h2]
  repeat (first | (refine Zv rfl rfl ?_) | (refine LJ rfl rfl rfl rfl (by rw [ED];exact hlt) ?_) | (refine G4 rfl rfl rfl hp rfl ?_) | (refine XA rfl rfl hb rfl ?_) | refine A3 ?_)
  by_cases h3:e1.kind=3
  ·rw [Yh h3]
   repeat (first | (refine Zv rfl rfl ?_) | refine A3 ?_)
   rw [show ZU e r=r2.length+1 by rw [<- hlb];simp only [ZU,if_neg h2,if_pos h3]]
   exact KB (Shift.refl _) rfl rfl (DL (lits:=[]) rfl)
  ·rw [Yf h3]
   repeat (first | (refine Zk rfl rfl ?_) | (refine EP (a:=r2.length) rfl rfl rfl (by simp at hlt;omega) ?_) | refine A3 ?_)
   refine C7 (e2,r2) 2 ⟨(List.suffix_cons _ _).trans hsuf,?_⟩ (by dsimp only;simp) (NL ⟨rfl,rfl,trivial⟩)
   rw [<- hlb]
   simp only [ZU,if_neg h2,if_neg h3]}
end
section
open VL
def ok1 (x:El):Prop:=(∀ q,x.args=some q->q.1.length<=1000000)/\x.cur.length<=9223372036854775807
def fits (e:El) (r:Q3 El):Prop:=r.length<=999/\∀ x ∈ e::r,ok1 x
theorem BR {e:El} {r:Q3 El} (h:fits e r):fit e r:=⟨⟨by have:=h.1;omega,(h.2 e (Yi ..)).1⟩,(h.2 e (Yi ..)).2⟩
theorem DD {e e2:El} {r:Q3 El} (h:fits e (e2::r)):fits e2 r:=⟨by have:=h.1;simp at this;omega,fun x hx=>h.2 x (Yg _ hx)⟩
theorem F5 {e e':El} {r:Q3 El} (h:fits e r) (h':fit e' r):fits e' r:=⟨h.1,fun x hx=>by
 rcases Ys.1 hx with rfl | hx
 exact ⟨h'.1.2,h'.2⟩
 exact h.2 x (Yg _ hx)⟩
theorem oR {r:Q3 El}:∀ {l:Q3 Arg} {e e':El},fit e r->IK e l=some e'->fit e' r
 | [],e,e',hf,h=>by injection h with h;rw [<- h];exact hf
 | a::l,e,e',hf,h=>by
   obtain ⟨e1,h1,h⟩:=Ya.1 h
   exact oR (oO hf h1) h
theorem XB {e e2 e3:El} {r:Q3 El} (hf:fits e (e2::r)) (h:JD e e2=some e3):fits e3 r:=by{
refine F5 (DD hf) ?_
obtain ⟨a,ha,h⟩:=Ya.1 h
obtain ⟨b,hb,h⟩:=Ya.1 h
split at h
exact oR (NK (oN (BR (DD hf)) ha) hb) h
cases h}
def F6:Nat->El->Q3 El->Q2 (El×Q3 El) | 0,e,r=>some (e,r) | _+1,_,[]=>none | n+1,e,e2::r=>(JD e e2).bind fun e3=>F6 n e3 r
theorem Zms {P:Program} [WInv P] {f:FuncId} {args args':Q3 PV} {obs:Q3 (Nat×VObj)} {res:PV} {obs':Q3 (Nat×Gen×VObj)} (hl:args.length=args'.length) (h:∀ (x:Ctx) (i:Nat) (p p':PV) (v:Value),args[i]? = some p->args'[i]? = some p'->Rep x p v->Rep x p' v)
  (hc:ContractG P f args' obs res obs'):ContractG P f args obs res obs':=by
 refine ⟨hc.isGo,fun x vs hp hI=>hc.calls x vs ⟨hl.symm.trans hp.size,fun i p' v hp' hv=>?_,hp.ob,hp.gen,hp.flt⟩ hI⟩
 have hlt:i<args.length:=by rw [hl];exact (Yd.1 hp').1
 exact h x i _ p' v (Yc hlt) hp' (hp.rep i _ v (Yc hlt) hv)
theorem ZzR {x:Ctx} {v:Value} (h:Rep x .nil v):Rep x (.sl []) v:=by
 cases h
 exact .sl [] none 0 0 0 0 0 (fun _ _=>undef) rfl (Yn _) (by omega) (by simp) (by omega) (fun i j e p he=>by simp at he) (fun i j e p he=>by simp at he)
theorem ZyL {x:Ctx} {v:Value} {cs cs':Q3 PV} (hl:cs.length=cs'.length) (h:∀ (j:Nat) (q q':PV),cs[j]? = some q->cs'[j]? = some q'->q=q'\/(q = .nil/\q' = .sl [])) (hr:Rep x (.agg cs) v):Rep x (.agg cs') v:=by{
cases hr with
| agg _ vs hl2 hh=>
  refine .agg cs' vs (hl.symm.trans hl2) fun i p' w hp' hw=>?_
  have hlt:i<cs.length:=by rw [hl];exact (Yd.1 hp').1
  have hp:=Yc hlt
  rcases h i _ p' hp hp' with e | ⟨e1,e2⟩
  rw [<- e]
  exact hh i _ w hp hw
  rw [e2]
  have:=hh i _ w hp hw
  rw [e1] at this
  exact ZzR this}
theorem oS {e e':El} {r:Q3 El} {n:Node} {cs:Q3 PV} (hl:cs.length=5) (h:∀ (j:Nat) (q q':PV),cs[j]? = some q->n.cs[j]? = some q'->q=q'\/(q = .nil/\q' = .sl [])) (hc:PC 103 [.agg n.cs] e r (.tup []) e' r):PC 103 [.agg cs] e r (.tup []) e' r:=
 Zms (args':=[.ptr 0 (0,0) 0,.agg n.cs]) rfl (fun x i p p' v hp hp' hr=>by
  match i with
  | 0=>
    injection hp with hp
    injection hp' with hp'
    rw [<- hp',hp]
    exact hr
  | 1=>
    injection hp with hp
    injection hp' with hp'
    have hr':Rep x (.agg cs) v:=by rw [hp];exact hr
    rw [<- hp']
    exact ZyL (hl.trans rfl) h hr'
  | i+2=>simp at hp) hc
theorem ZyM (e e':El) (r:Q3 El) (k t:Int) (s:Q1) (l:Q3 (Q3 PV)) (hs:small e r) (h:EG e ⟨k,t,s,l,[]⟩=some e'):PC 103 [.agg [.int .i64 k,.int .i64 t,.str s,.sl l,.nil]] e r (.tup []) e' r:=
 oS (n:=⟨k,t,s,l,[]⟩) rfl (fun j q q' hq hq'=>by
  match j with
  | 0=>injection hq with hq;injection hq' with hq';exact .inl (hq.symm.trans hq')
  | 1=>injection hq with hq;injection hq' with hq';exact .inl (hq.symm.trans hq')
  | 2=>injection hq with hq;injection hq' with hq';exact .inl (hq.symm.trans hq')
  | 3=>injection hq with hq;injection hq' with hq';exact .inl (hq.symm.trans hq')
  | 4=>injection hq with hq;injection hq' with hq';exact .inr ⟨hq.symm,hq'.symm⟩
  | j+5=>simp at hq) (KE e r _ hs e' h)
theorem oT (e e':El) (r:Q3 El) (k t:Int) (s:Q1) (hs:small e r) (h:EG e ⟨k,t,s,[],[]⟩=some e'):PC 103 [.agg [.int .i64 k,.int .i64 t,.str s,.nil,.nil]] e r (.tup []) e' r:=
 oS (n:=⟨k,t,s,[],[]⟩) rfl (fun j q q' hq hq'=>by
  match j with
  | 0=>injection hq with hq;injection hq' with hq';exact .inl (hq.symm.trans hq')
  | 1=>injection hq with hq;injection hq' with hq';exact .inl (hq.symm.trans hq')
  | 2=>injection hq with hq;injection hq' with hq';exact .inl (hq.symm.trans hq')
  | 3=>injection hq with hq;injection hq' with hq';exact .inr ⟨hq.symm,hq'.symm⟩
  | 4=>injection hq with hq;injection hq' with hq';exact .inr ⟨hq.symm,hq'.symm⟩
  | j+5=>simp at hq) (KE e r _ hs e' h)
theorem eM (k:Int):∀ (e:El) (r:Q3 El),BQ k e r<=r.length
 | _,[]=>Yn _
 | e,e2::r=>by
   unfold BQ
   split
   simp
   have:=eM k e2 r
   simp
   omega
def KI (k:Int) (s:Q1) (e:El) (r:Q3 El):Q2 (El×Q3 El):=if BQ k e r=0 then (AM e s).map fun e'=>(e',r) else (F6 (r.length-BQ k e r) e r).bind fun q=>match q.2 with | []=>none | e2::r2=>(EG e2 ⟨6,k,⟨#[]⟩,q.1.list,[]⟩).map fun e3=>(e3,r2)
theorem Zsu (k:Int) (s:Q1) (e e3:El) (r r3:Q3 El) (hf:fits e r) (h:KI k s e r=some (e3,r3)):PC 109 [.int .i64 k,.str s] e r (.tup []) e3 r3:=by{
have hr:=hf.1
have hat:=eM k e r
refine ZI mix Tryz.func109 ?_
rw [CT]
repeat (first | (refine CM rfl rfl (ED _ _ _) ?_) | (refine EP rfl rfl rfl (by omega) ?_) | (refine DA (α:=Unit) (c:=.block 0 _) (fun _ _=>mkS [(0,Q6),(1,Q5 k),(2,.str s),(6,Q5 (BQ k e r:Int))] (somes (stP νa e r)) 2) (fun _=>True) ?_ (fun a _ _=>?_)) | refine A3 ?_)
refine Zu (fun (a:El×Q3 El) _=>mkS [(0,Q6),(1,Q5 k),(2,.str s),(6,Q5 (a.2.length:Int))] (somes (stP νa e r)) 2) (fun a=>(a.1::a.2) <:+ (e::r)/\BQ k a.1 a.2=BQ k e r) (fun a=>a.2.length) (e,r) 2 ⟨List.suffix_refl _,rfl⟩ (NL ⟨rfl,rfl,rfl,rfl,trivial⟩) (fun a ng hJ=>?_)
obtain ⟨e1,r1⟩:=a
obtain ⟨hsuf,hlb⟩:=hJ
dsimp only at hsuf hlb ⊢
have hlt:r1.length<r.length+1:=by have:=hsuf.length_le;simp at this;omega
obtain ⟨b,c1,c2,hp,hm⟩:=oQ (ν:=νa) (NT:=78) (AT:=111) (ET:=98) hsuf
have hb:=DL (lits:=[]) rfl _ _ _ hm
rcases r1 with _ | ⟨e2,r2⟩
·repeat (first | (refine Zw rfl ?_) | (refine Zk rfl rfl ?_) | refine A3 ?_)
 rw [<- hlb]
 exact LG () 2 trivial (NL ⟨rfl,rfl,rfl,rfl,trivial⟩)
·have h0:decide ((0:Int)<(((e2::r2).length:Nat):Int))=true:=Yh (by simp)
 repeat refine A3 ?_
 rw [h0]
 repeat (first | (refine LJ rfl rfl rfl rfl (by rw [ED];exact hlt) ?_) | (refine G4 rfl rfl rfl hp rfl ?_) | (refine XA rfl rfl hb rfl ?_) | refine A3 ?_)
 by_cases h2:e1.kind=2
 ·rw [Yh h2]
  repeat (first | (refine LJ rfl rfl rfl rfl (by rw [ED];exact hlt) ?_) | (refine G4 rfl rfl rfl hp rfl ?_) | (refine XA rfl rfl hb rfl ?_) | refine A3 ?_)
  by_cases h3:e1.tag=k
  ·rw [Yh h3]
   repeat (first | (refine Zk rfl rfl ?_) | refine A3 ?_)
   rw [show BQ k e r=r2.length+1 by rw [<- hlb];simp only [BQ,if_pos (And.intro h2 h3)]]
   exact LG () 2 trivial (NL ⟨rfl,rfl,rfl,rfl,trivial⟩)
  ·rw [Yf h3]
   repeat (first | (refine Zv rfl rfl ?_) | (refine EP (a:=r2.length) rfl rfl rfl (by simp at hlt;omega) ?_) | refine A3 ?_)
   refine C7 (e2,r2) 2 ⟨(List.suffix_cons _ _).trans hsuf,?_⟩ (by dsimp only;simp) (NL ⟨rfl,rfl,rfl,rfl,trivial⟩)
   rw [<- hlb]
   simp only [BQ,if_neg (fun h:e1.kind=2/\e1.tag=k=>h3 h.2)]
 ·rw [Yf h2]
  repeat (first | (refine Zw rfl ?_) | (refine Zv rfl rfl ?_) | (refine EP (a:=r2.length) rfl rfl rfl (by simp at hlt;omega) ?_) | refine A3 ?_)
  refine C7 (e2,r2) 2 ⟨(List.suffix_cons _ _).trans hsuf,?_⟩ (by dsimp only;simp) (NL ⟨rfl,rfl,rfl,rfl,trivial⟩)
  rw [<- hlb]
  simp only [BQ,if_neg (fun h:e1.kind=2/\e1.tag=k=>h2 h.1)]
unfold KI at h
by_cases h0:BQ k e r=0
·rw [if_pos h0] at h
 obtain ⟨e',he',h⟩:=Ye.1 h
 injection h with q1 q2
 subst q1 q2
 repeat refine A3 ?_
 rw [show decide (((BQ k e r:Nat):Int)=0)=true from Yh (by omega)]
 repeat (first | (refine Zv rfl rfl ?_) | (refine ZD [] νa (CN e r s (BR hf).1 (BR hf).2 e' he') rfl rfl rfl rfl rfl rfl ?_) | refine A3 ?_)
 exact BW (.inl rfl) (νc 3 2) [] [] rfl rfl trivial rfl rfl
·rw [if_neg h0] at h
 obtain ⟨⟨e4,r4⟩,hfl,h⟩:=Ya.1 h
 rcases r4 with _ | ⟨e5,r5⟩
 cases h
 obtain ⟨e6,he6,h⟩:=Ye.1 h
 injection h with q1 q2
 subst q1 q2
 repeat refine A3 ?_
 rw [show decide (((BQ k e r:Nat):Int)=0)=false from Yf (by omega)]
 repeat (first | (refine Zk rfl rfl ?_) | refine A3 ?_)
 generalize BQ k e r=at_ at hat h0 hfl ⊢
 refine Zu (fun (a:El×Q3 El) _=>mkS [(0,Q6),(1,Q5 k),(6,Q5 (at_:Int))] (somes (stP νb a.1 a.2)) 2) (fun a=>fits a.1 a.2/\at_<=a.2.length/\F6 (a.2.length-at_) a.1 a.2=some (e4,e5::r5)) (fun a=>a.2.length) (e,r) 2 ⟨hf,hat,hfl⟩
  (CA νa [] (fun k=>(k,νa k)) (fun _ _=>rfl) rfl ⟨rfl,rfl,rfl,trivial⟩ (x:=[]) (x':=[]) rfl rfl rfl (AP _) rfl) (fun a ng hJ=>?_)
 obtain ⟨e1,r1⟩:=a
 obtain ⟨hf1,hle,hft⟩:=hJ
 dsimp only at hf1 hle hft ⊢
 have hr1:=hf1.1
 repeat (first | (refine CM rfl rfl (ED _ _ _) ?_) | refine MZ rfl rfl (by omega) ?_ | refine A3 ?_)
 by_cases hgt:at_<r1.length
 ·rw [show decide (((at_+1:Nat):Int)<((r1.length+1:Nat):Int))=true from Yh (by omega)]
  rcases r1 with _ | ⟨e2,r2⟩
  simp at hgt
  simp only [Yr] at hgt hle hft hr1
  rw [show r2.length+1-at_=(r2.length-at_)+1 by omega] at hft
  obtain ⟨e7,he7,hft⟩:=Ya.1 hft
  repeat (first | (refine Zv rfl rfl ?_) | (refine ZD [] νb (eK e1 e2 e7 r2 (by omega) (BR (DD hf1)) he7) rfl rfl rfl rfl rfl rfl ?_) | refine A3 ?_)
  exact C7 (e7,r2) 2 ⟨XB hf1 he7,by dsimp only;omega,hft⟩ (by dsimp only;simp) (CA (νc 3 1) [] (fun k=>(k,νc 3 1 k)) (fun _ _=>rfl) rfl ⟨rfl,rfl,rfl,trivial⟩ (x:=[]) (x':=[]) rfl rfl rfl (AP _) rfl)
 ·rw [show decide (((at_+1:Nat):Int)<((r1.length+1:Nat):Int))=false from Yf (by omega)]
  rw [show r1.length-at_=0 by omega] at hft
  injection hft with hft
  injection hft with q1 q2
  subst q1 q2
  repeat (first | (refine Zk rfl rfl ?_) | refine A3 ?_)
  refine QG [] νb (QD e1 e5 r5 (by simp at hr1;omega)) rfl rfl rfl rfl ?_
  iterate 2 (refine A3 ?_)
  refine CU (eH (3,1+1000000 * (1000+1)) νb (tm':=[(0,.ptr 0 (0,0) 0),(1,.int .i64 k),(7,.ptr 300 (1,300) 0)]) ⟨rfl,rfl,rfl,trivial⟩) ?_ (CY _ _)
  repeat (first | (refine ZD [_] νb (ZyM e5 e6 r5 6 k ⟨#[]⟩ e1.list (BR (DD hf1)).1 he6) rfl rfl rfl rfl rfl rfl ?_) | refine A3 ?_)
  exact BW (.inr rfl) (νc 2 7) [_] [] rfl rfl trivial rfl rfl}
def BJ (c count:Int):Int:=if 3<=c/\3<=count then 3 else 2
def DQ (c:Int) (e:El):Node:=⟨if 3<=c/\3<=e.count then 5 else 4,0,⟨#[]⟩,e.list,e.argL.map Arg.cs⟩
def M7 (c:Int) (e:El) (r:Q3 El):Q2 (El×Q3 El):=(strings_Repeat ⟨#[125]⟩ c).bind fun s=>(AM e s).map fun e'=>(e',r)
def QI (e2:El) (m:Int) (n:Node):Q2 El:=((if m=1 then AM e2 ⟨#[123]⟩ else some e2):Q2 El).bind fun e3=>EG e3 n
def FT:Nat->Int->El->Q3 El->Q2 (El×Q3 El)
 | 0,_,_,_=>none
 | f+1,c,e,r=>if 2<=c then (if ZU e r=0 then M7 c e r else
   (F6 (r.length-ZU e r) e r).bind fun q=>if c<=9223372036854775807/\0<=q.1.count/\q.1.count<=9223372036854775807 then
    (if 2<=q.1.count-BJ c q.1.count then FT f (c-BJ c q.1.count) ⟨q.1.kind,q.1.tag,q.1.count-BJ c q.1.count,[(DQ c q.1).cs],none⟩ q.2
     else match q.2 with
      | []=>none
      | e2::r2=>(QI e2 (q.1.count-BJ c q.1.count) (DQ c q.1)).bind fun e4=>FT f (c-BJ c q.1.count) e4 r2) else none)
   else M7 c e r
theorem XC {e2 e4:El} {m:Int} {n:Node} {r:Q3 El} (hf:fit e2 r) (h:QI e2 m n=some e4):fit e4 r:=by{
obtain ⟨e3,h3,h⟩:=Ya.1 h
refine QF ?_ h
split at h3
exact CF hf h3
injection h3 with h3
rw [<- h3]
exact hf}
theorem XD:∀ {n:Nat} {e e':El} {r r':Q3 El},fits e r->F6 n e r=some (e',r')->fits e' r'
 | 0,e,e',r,r',hf,h=>by injection h with h;injection h with h1 h2;rw [<- h1,<- h2];exact hf
 | n+1,e,e',[],r',hf,h=>by cases h
 | n+1,e,e',e2::r,r',hf,h=>by
   obtain ⟨e3,h3,h⟩:=Ya.1 h
   exact XD (XB hf h3) h
theorem eN:∀ (e:El) (r:Q3 El),ZU e r<=r.length
 | _,[]=>Yn _
 | e,e2::r=>by
   unfold ZU
   split
   simp
   split
   simp
   have:=eN e2 r
   simp
   omega
theorem eO (b:Nat) (ν:Nat->Gen) (pre:Q3 Arg) (a:Arg):(ES b ν (some (pre,a))).set pre.length (AN [.bool a.named,.sl a.name,.row (b+3) (ν (b+3))] 2 [.sl a.value])=(pre ++ [a]).map Arg.cs:=by
 have:=QC b ν pre a a.cs
 rw [YR]
 exact this
theorem Zob (f:Nat) (c:Int) (e e9:El) (r r9:Q3 El) (hf:fits e r) (h:FT f c e r=some (e9,r9)):PC 110 [.int .i64 c] e r (.tup []) e9 r9:=by{
refine ZI mix Tryz.func110 ?_
rw [CT]
repeat refine A3 ?_
refine Zu (fun (a:Nat×Int×El×Q3 El) _=>mkS [(0,Q6),(1,Q5 a.2.1)] (somes (stP νb a.2.2.1 a.2.2.2)) 2) (fun a=>fits a.2.2.1 a.2.2.2/\FT a.1 a.2.1 a.2.2.1 a.2.2.2=some (e9,r9)) (fun a=>a.1) (f,c,e,r) 2 ⟨hf,h⟩
 (CA νa [] (fun k=>(k,νa k)) (fun _ _=>rfl) rfl ⟨rfl,rfl,trivial⟩ (x:=[]) (x':=[]) rfl rfl rfl (AP _) rfl) (fun a ng hJ=>?_)
clear h hf
obtain ⟨f,c,e,r⟩:=a
obtain ⟨hf,h⟩:=hJ
dsimp only at hf h ⊢
rcases f with _ | f
cases h
have hr:=hf.1
unfold FT at h
repeat refine A3 ?_
by_cases hc2:2<=c
rotate_left
·rw [if_neg hc2] at h
 obtain ⟨s,hs,h⟩:=Ya.1 h
 obtain ⟨e',he',h⟩:=Ye.1 h
 injection h with q1 q2
 subst q1 q2
 rw [Yf hc2]
 repeat (first | (refine Zk rfl rfl ?_) | (refine DU (dC _ _ _ hs) rfl rfl ?_) | (refine ZD [] νb (CN e r s (BR hf).1 (BR hf).2 e' he') rfl rfl rfl rfl rfl rfl ?_) | refine A3 ?_)
 exact BW (.inr rfl) (νc 3 3) [] [] rfl rfl trivial rfl rfl
rw [if_pos hc2] at h
rw [Yh hc2]
have hat:=eN e r
have hlb:=ZpF e r (by omega)
generalize ZU e r=at_ at hat h hlb
repeat (first | (refine Zv rfl rfl ?_) | (refine CB [] νb hlb rfl rfl rfl rfl rfl rfl ?_) | refine A3 ?_)
by_cases h0:at_=0
·rw [if_pos h0] at h
 obtain ⟨s,hs,h⟩:=Ya.1 h
 obtain ⟨e',he',h⟩:=Ye.1 h
 injection h with q1 q2
 subst q1 q2
 rw [show decide ((at_:Int)=0)=true from Yh (by omega)]
 repeat (first | (refine Zv rfl rfl ?_) | (refine DU (dC _ _ _ hs) rfl rfl ?_) | (refine ZD [] νb (CN e r s (BR hf).1 (BR hf).2 e' he') rfl rfl rfl rfl rfl rfl ?_) | refine A3 ?_)
 exact BW (.inr rfl) (νc 5 3) [] [] rfl rfl trivial rfl rfl
rw [if_neg h0] at h
obtain ⟨⟨e1,r1⟩,hfl,h⟩:=Ya.1 h
have hf1:=XD hf hfl
rw [show decide ((at_:Int)=0)=false from Yf (by omega)]
repeat (first | (refine Zk rfl rfl ?_) | (refine DA (α:=Unit) (c:=.block 2 _) (fun _ _=>mkS [(0,Q6),(1,Q5 c)] (somes (stP νb e1 r1)) 2) (fun _=>True) ?_ (fun a _ _=>?_)) | refine A3 ?_)
·refine Zu (fun (a:El×Q3 El) _=>mkS [(0,Q6),(1,Q5 c),(4,Q5 (at_:Int))] (somes (stP νb a.1 a.2)) 2) (fun a=>fits a.1 a.2/\at_<=a.2.length/\F6 (a.2.length-at_) a.1 a.2=some (e1,r1)) (fun a=>a.2.length) (e,r) 2 ⟨hf,hat,hfl⟩
  (CA νb [] (fun k=>(k,νb k)) (fun _ _=>rfl) rfl ⟨rfl,rfl,rfl,trivial⟩ (x:=[]) (x':=[]) rfl rfl rfl (AP _) rfl) (fun a ng hJ=>?_)
 obtain ⟨e5,r5⟩:=a
 obtain ⟨hf5,hle,hft⟩:=hJ
 dsimp only at hf5 hle hft ⊢
 have hr5:=hf5.1
 repeat (first | (refine CM rfl rfl (ED _ _ _) ?_) | refine MZ rfl rfl (by omega) ?_ | refine A3 ?_)
 by_cases hgt:at_<r5.length
 ·rw [show decide (((at_+1:Nat):Int)<((r5.length+1:Nat):Int))=true from Yh (by omega)]
  rcases r5 with _ | ⟨e2,r2⟩
  simp at hgt
  simp only [Yr] at hgt hle hft hr5
  rw [show r2.length+1-at_=(r2.length-at_)+1 by omega] at hft
  obtain ⟨e7,he7,hft⟩:=Ya.1 hft
  repeat (first | (refine Zv rfl rfl ?_) | (refine ZD [] νb (eK e5 e2 e7 r2 (by omega) (BR (DD hf5)) he7) rfl rfl rfl rfl rfl rfl ?_) | refine A3 ?_)
  exact C7 (e7,r2) 2 ⟨XB hf5 he7,by dsimp only;omega,hft⟩ (by dsimp only;simp) (CA (νc 3 1) [] (fun k=>(k,νc 3 1 k)) (fun _ _=>rfl) rfl ⟨rfl,rfl,rfl,trivial⟩ (x:=[]) (x':=[]) rfl rfl rfl (AP _) rfl)
 ·rw [show decide (((at_+1:Nat):Int)<((r5.length+1:Nat):Int))=false from Yf (by omega)]
  rw [show r5.length-at_=0 by omega] at hft
  injection hft with hft
  injection hft with q1 q2
  subst q1 q2
  repeat (first | (refine Zk rfl rfl ?_) | refine A3 ?_)
  exact LG () 2 trivial (CA νb [] (fun k=>(k,νb k)) (fun _ _=>rfl) rfl ⟨rfl,rfl,trivial⟩ (x:=[]) (x':=[]) rfl rfl rfl (AP _) rfl)
·split at h
 rotate_left
 cases h
 rename_i hb
 obtain ⟨hb1,hb2,hb3⟩:=hb
 clear hfl hat hlb h0 hf hr
 obtain ⟨kind,tag,count,list,args⟩:=e1
 dsimp only at hb2 hb3 h
 have hr1:=hf1.1
 repeat (first | (refine CB [] νb (CE _ r1 (by omega)) rfl rfl rfl rfl rfl rfl ?_) | refine A3 ?_)
 by_cases hk1:3<=c
 by_cases hk2:3<=count
 ·have hK:BJ c count=3:=if_pos ⟨hk1,hk2⟩
  have hN:DQ c ⟨kind,tag,count,list,args⟩=⟨5,0,⟨#[]⟩,list,(El.argL ⟨kind,tag,count,list,args⟩).map Arg.cs⟩:=by unfold DQ;rw [if_pos ⟨hk1,hk2⟩]
  rw [hK,hN] at h
  rw [Yh hk1]
  repeat refine A3 ?_
  rw [Yh hk2]
  repeat (first | (refine Zv rfl rfl ?_) | (refine JX (a:=c) (b:=3) rfl rfl rfl (by omega) (by omega) ?_) | (refine JX (a:=count) (b:=3) rfl rfl rfl (by omega) (by omega) ?_) | refine A3 ?_)
  by_cases hm:2<=count-3
  rw [if_pos hm] at h
  rw [Yh hm]
  refine Zv rfl rfl ?_
  have hfn:fits ⟨kind,tag,count-3,[Node.cs ⟨5,0,⟨#[]⟩,list,(El.argL ⟨kind,tag,count,list,args⟩).map Arg.cs⟩],none⟩ r1:=F5 hf1 ⟨⟨by omega,fun q hq=>by cases hq⟩,by show 1<=9223372036854775807;omega⟩
  rcases args with _ | ⟨pre,a⟩
  ·refine CU (M5 (b:=1001) (u:=8) (by omega) rfl rfl rfl (fun e he=>absurd he JM)) ?_ (CY _ _)
   repeat refine A3 ?_
   exact C7 (f,c-3,⟨kind,tag,count-3,[Node.cs ⟨5,0,⟨#[]⟩,list,[]⟩],none⟩,r1) 2 ⟨hfn,h⟩ (EI _) (Shift.trans (H4 1001 66 4 111 3 rfl rfl rfl) (Shift.trans (LI (t:=66) rfl) (QH (10,3) (11,0) 65 66 νb rfl ⟨rfl,rfl,trivial⟩ rfl rfl rfl rfl rfl rfl (GP (A:=[_,_,_,_,_,_,_,_,_,_,_,_,_]) rfl))))
  ·refine CU (KC 1003 pre.length 2 rfl (EF _ _ _ _) rfl (KG rfl) (eO _ _ _ _)) ?_ (CY _ _)
   refine CU (M5 (b:=1001) (u:=8) (by omega) rfl rfl rfl TP) ?_ (CY _ _)
   repeat refine A3 ?_
   exact C7 (f,c-3,⟨kind,tag,count-3,[Node.cs ⟨5,0,⟨#[]⟩,list,(pre ++ [a]).map Arg.cs⟩],none⟩,r1) 2 ⟨hfn,h⟩ (EI _) (Shift.trans (H4 1001 66 4 111 3 rfl rfl rfl) (Shift.trans (LI (t:=66) rfl) (QH (10,3) (11,0) 65 66 νb rfl ⟨rfl,rfl,trivial⟩ rfl rfl rfl rfl rfl rfl (GP (A:=[_,_,_,_,_,_,_,_,_,_,_,_,_,_,_]) rfl))))
  ·rw [if_neg hm] at h
   rcases r1 with _ | ⟨e2,r2⟩
   cases h
   obtain ⟨e4,he4,h⟩:=Ya.1 h
   have hf2:=BR (DD hf1)
   have hf4:=F5 (DD hf1) (XC hf2 he4)
   rw [Yf hm]
   refine Zk rfl rfl ?_
   refine CU (Shift.trans (eI (lits:=[_,_]) (m:=count-3) rfl) (CA νb [_,_] (fun k=>if k=8 then (8,(6,10)) else (k,νb k)) (fun k hk=>if_neg (by omega)) rfl (tm':=[(0,.ptr 0 (0,0) 0),(1,.int .i64 (c-3)),(5,.ptr 1001 (1,1001) 0),(8,.ptr 8 (1,8) 0)]) ⟨rfl,rfl,rfl,rfl,trivial⟩ (x:=[(8,(6,10),.box [.int .i64 5,.int .i64 0,.str ⟨#[]⟩,.row 1002 (νb 1002),.row 1003 (νb 1003)])]) (x':=[(8,νb 8,.box [.int .i64 5,.int .i64 0,.str ⟨#[]⟩,.row 1002 (νb 1002),.row 1003 (νb 1003)])]) rfl rfl rfl (Zp rfl (AP _)) rfl)) ?_ (CY _ _)
   repeat refine A3 ?_
   refine QG [_] νb (QD ⟨kind,tag,count-3,list,args⟩ e2 r2 (by simp at hr1;omega)) rfl rfl rfl rfl ?_
   refine A3 ?_
   refine CU (eJ (2,1+1000000 * (1000+1)) (1,8) νb (tm':=[(0,.ptr 0 (0,0) 0),(1,.int .i64 (c-3)),(5,.ptr 300 (1,300) 0),(8,.ptr 8 (1,8) 0)]) ⟨rfl,rfl,rfl,rfl,trivial⟩) ?_ (CY _ _)
   repeat refine A3 ?_
   obtain ⟨e3,h3,he4⟩:=Ya.1 he4
   by_cases h1:count-3=1
   ·rw [if_pos h1] at h3
    rw [Yh h1]
    have hf3:=CF hf2 h3
    repeat (first | (refine Zv rfl rfl ?_) | (refine ZD [_,_] νb (CN e2 r2 _ hf2.1 hf2.2 e3 h3) rfl rfl rfl rfl rfl rfl ?_) | (refine ZD [_,_] (νc _ _) (KE e3 r2 _ hf3.1 e4 he4) rfl rfl rfl rfl rfl rfl ?_) | refine A3 ?_)
    exact C7 (f,c-3,e4,r2) 2 ⟨hf4,h⟩ (EI _) (CA (νc 4 2) [_,_] (fun k=>(k,νc 4 2 k)) (fun _ _=>rfl) rfl ⟨rfl,rfl,trivial⟩ (x:=[]) (x':=[]) rfl rfl rfl (AP _) rfl)
   ·rw [if_neg h1] at h3
    cases h3
    rw [Yf h1]
    repeat (first | (refine Zk rfl rfl ?_) | (refine ZD [_,_] νb (KE e2 r2 _ hf2.1 e4 he4) rfl rfl rfl rfl rfl rfl ?_) | refine A3 ?_)
    exact C7 (f,c-3,e4,r2) 2 ⟨hf4,h⟩ (EI _) (CA (νc 3 2) [_,_] (fun k=>(k,νc 3 2 k)) (fun _ _=>rfl) rfl ⟨rfl,rfl,trivial⟩ (x:=[]) (x':=[]) rfl rfl rfl (AP _) rfl)
 ·have hK:BJ c count=2:=if_neg (fun h=>hk2 h.2)
  have hN:DQ c ⟨kind,tag,count,list,args⟩=⟨4,0,⟨#[]⟩,list,(El.argL ⟨kind,tag,count,list,args⟩).map Arg.cs⟩:=by unfold DQ;rw [if_neg (fun h=>hk2 h.2)]
  rw [hK,hN] at h
  rw [Yh hk1]
  repeat refine A3 ?_
  rw [Yf hk2]
  repeat (first | (refine Zk rfl rfl ?_) | (refine JX (a:=c) (b:=2) rfl rfl rfl (by omega) (by omega) ?_) | (refine JX (a:=count) (b:=2) rfl rfl rfl (by omega) (by omega) ?_) | refine A3 ?_)
  by_cases hm:2<=count-2
  rw [if_pos hm] at h
  rw [Yh hm]
  refine Zv rfl rfl ?_
  have hfn:fits ⟨kind,tag,count-2,[Node.cs ⟨4,0,⟨#[]⟩,list,(El.argL ⟨kind,tag,count,list,args⟩).map Arg.cs⟩],none⟩ r1:=F5 hf1 ⟨⟨by omega,fun q hq=>by cases hq⟩,by show 1<=9223372036854775807;omega⟩
  rcases args with _ | ⟨pre,a⟩
  ·refine CU (M5 (b:=1001) (u:=8) (by omega) rfl rfl rfl (fun e he=>absurd he JM)) ?_ (CY _ _)
   repeat refine A3 ?_
   exact C7 (f,c-2,⟨kind,tag,count-2,[Node.cs ⟨4,0,⟨#[]⟩,list,[]⟩],none⟩,r1) 2 ⟨hfn,h⟩ (EI _) (Shift.trans (H4 1001 66 4 111 3 rfl rfl rfl) (Shift.trans (LI (t:=66) rfl) (QH (9,3) (10,0) 65 66 νb rfl ⟨rfl,rfl,trivial⟩ rfl rfl rfl rfl rfl rfl (GP (A:=[_,_,_,_,_,_,_,_,_,_,_,_,_]) rfl))))
  ·refine CU (KC 1003 pre.length 2 rfl (EF _ _ _ _) rfl (KG rfl) (eO _ _ _ _)) ?_ (CY _ _)
   refine CU (M5 (b:=1001) (u:=8) (by omega) rfl rfl rfl TP) ?_ (CY _ _)
   repeat refine A3 ?_
   exact C7 (f,c-2,⟨kind,tag,count-2,[Node.cs ⟨4,0,⟨#[]⟩,list,(pre ++ [a]).map Arg.cs⟩],none⟩,r1) 2 ⟨hfn,h⟩ (EI _) (Shift.trans (H4 1001 66 4 111 3 rfl rfl rfl) (Shift.trans (LI (t:=66) rfl) (QH (9,3) (10,0) 65 66 νb rfl ⟨rfl,rfl,trivial⟩ rfl rfl rfl rfl rfl rfl (GP (A:=[_,_,_,_,_,_,_,_,_,_,_,_,_,_,_]) rfl))))
  ·rw [if_neg hm] at h
   rcases r1 with _ | ⟨e2,r2⟩
   cases h
   obtain ⟨e4,he4,h⟩:=Ya.1 h
   have hf2:=BR (DD hf1)
   have hf4:=F5 (DD hf1) (XC hf2 he4)
   rw [Yf hm]
   refine Zk rfl rfl ?_
   refine CU (Shift.trans (eI (lits:=[_,_]) (m:=count-2) rfl) (CA νb [_,_] (fun k=>if k=8 then (8,(5,10)) else (k,νb k)) (fun k hk=>if_neg (by omega)) rfl (tm':=[(0,.ptr 0 (0,0) 0),(1,.int .i64 (c-2)),(5,.ptr 1001 (1,1001) 0),(8,.ptr 8 (1,8) 0)]) ⟨rfl,rfl,rfl,rfl,trivial⟩ (x:=[(8,(5,10),.box [.int .i64 4,.int .i64 0,.str ⟨#[]⟩,.row 1002 (νb 1002),.row 1003 (νb 1003)])]) (x':=[(8,νb 8,.box [.int .i64 4,.int .i64 0,.str ⟨#[]⟩,.row 1002 (νb 1002),.row 1003 (νb 1003)])]) rfl rfl rfl (Zp rfl (AP _)) rfl)) ?_ (CY _ _)
   repeat refine A3 ?_
   refine QG [_] νb (QD ⟨kind,tag,count-2,list,args⟩ e2 r2 (by simp at hr1;omega)) rfl rfl rfl rfl ?_
   refine A3 ?_
   refine CU (eJ (2,1+1000000 * (1000+1)) (1,8) νb (tm':=[(0,.ptr 0 (0,0) 0),(1,.int .i64 (c-2)),(5,.ptr 300 (1,300) 0),(8,.ptr 8 (1,8) 0)]) ⟨rfl,rfl,rfl,rfl,trivial⟩) ?_ (CY _ _)
   repeat refine A3 ?_
   obtain ⟨e3,h3,he4⟩:=Ya.1 he4
   by_cases h1:count-2=1
   ·rw [if_pos h1] at h3
    rw [Yh h1]
    have hf3:=CF hf2 h3
    repeat (first | (refine Zv rfl rfl ?_) | (refine ZD [_,_] νb (CN e2 r2 _ hf2.1 hf2.2 e3 h3) rfl rfl rfl rfl rfl rfl ?_) | (refine ZD [_,_] (νc _ _) (KE e3 r2 _ hf3.1 e4 he4) rfl rfl rfl rfl rfl rfl ?_) | refine A3 ?_)
    exact C7 (f,c-2,e4,r2) 2 ⟨hf4,h⟩ (EI _) (CA (νc 4 2) [_,_] (fun k=>(k,νc 4 2 k)) (fun _ _=>rfl) rfl ⟨rfl,rfl,trivial⟩ (x:=[]) (x':=[]) rfl rfl rfl (AP _) rfl)
   ·rw [if_neg h1] at h3
    cases h3
    rw [Yf h1]
    repeat (first | (refine Zk rfl rfl ?_) | (refine ZD [_,_] νb (KE e2 r2 _ hf2.1 e4 he4) rfl rfl rfl rfl rfl rfl ?_) | refine A3 ?_)
    exact C7 (f,c-2,e4,r2) 2 ⟨hf4,h⟩ (EI _) (CA (νc 3 2) [_,_] (fun k=>(k,νc 3 2 k)) (fun _ _=>rfl) rfl ⟨rfl,rfl,trivial⟩ (x:=[]) (x':=[]) rfl rfl rfl (AP _) rfl)
 ·have hK:BJ c count=2:=if_neg (fun h=>hk1 h.1)
  have hN:DQ c ⟨kind,tag,count,list,args⟩=⟨4,0,⟨#[]⟩,list,(El.argL ⟨kind,tag,count,list,args⟩).map Arg.cs⟩:=by unfold DQ;rw [if_neg (fun h=>hk1 h.1)]
  rw [hK,hN] at h
  rw [Yf hk1]
  repeat (first | (refine Zw rfl ?_) | (refine Zk rfl rfl ?_) | (refine JX (a:=c) (b:=2) rfl rfl rfl (by omega) (by omega) ?_) | (refine JX (a:=count) (b:=2) rfl rfl rfl (by omega) (by omega) ?_) | refine A3 ?_)
  by_cases hm:2<=count-2
  rw [if_pos hm] at h
  rw [Yh hm]
  refine Zv rfl rfl ?_
  have hfn:fits ⟨kind,tag,count-2,[Node.cs ⟨4,0,⟨#[]⟩,list,(El.argL ⟨kind,tag,count,list,args⟩).map Arg.cs⟩],none⟩ r1:=F5 hf1 ⟨⟨by omega,fun q hq=>by cases hq⟩,by show 1<=9223372036854775807;omega⟩
  rcases args with _ | ⟨pre,a⟩
  ·refine CU (M5 (b:=1001) (u:=8) (by omega) rfl rfl rfl (fun e he=>absurd he JM)) ?_ (CY _ _)
   repeat refine A3 ?_
   exact C7 (f,c-2,⟨kind,tag,count-2,[Node.cs ⟨4,0,⟨#[]⟩,list,[]⟩],none⟩,r1) 2 ⟨hfn,h⟩ (EI _) (Shift.trans (H4 1001 66 4 111 3 rfl rfl rfl) (Shift.trans (LI (t:=66) rfl) (QH (9,3) (10,0) 65 66 νb rfl ⟨rfl,rfl,trivial⟩ rfl rfl rfl rfl rfl rfl (GP (A:=[_,_,_,_,_,_,_,_,_,_,_,_,_]) rfl))))
  ·refine CU (KC 1003 pre.length 2 rfl (EF _ _ _ _) rfl (KG rfl) (eO _ _ _ _)) ?_ (CY _ _)
   refine CU (M5 (b:=1001) (u:=8) (by omega) rfl rfl rfl TP) ?_ (CY _ _)
   repeat refine A3 ?_
   exact C7 (f,c-2,⟨kind,tag,count-2,[Node.cs ⟨4,0,⟨#[]⟩,list,(pre ++ [a]).map Arg.cs⟩],none⟩,r1) 2 ⟨hfn,h⟩ (EI _) (Shift.trans (H4 1001 66 4 111 3 rfl rfl rfl) (Shift.trans (LI (t:=66) rfl) (QH (9,3) (10,0) 65 66 νb rfl ⟨rfl,rfl,trivial⟩ rfl rfl rfl rfl rfl rfl (GP (A:=[_,_,_,_,_,_,_,_,_,_,_,_,_,_,_]) rfl))))
  ·rw [if_neg hm] at h
   rcases r1 with _ | ⟨e2,r2⟩
   cases h
   obtain ⟨e4,he4,h⟩:=Ya.1 h
   have hf2:=BR (DD hf1)
   have hf4:=F5 (DD hf1) (XC hf2 he4)
   rw [Yf hm]
   refine Zk rfl rfl ?_
   refine CU (Shift.trans (eI (lits:=[_,_]) (m:=count-2) rfl) (CA νb [_,_] (fun k=>if k=8 then (8,(5,10)) else (k,νb k)) (fun k hk=>if_neg (by omega)) rfl (tm':=[(0,.ptr 0 (0,0) 0),(1,.int .i64 (c-2)),(5,.ptr 1001 (1,1001) 0),(8,.ptr 8 (1,8) 0)]) ⟨rfl,rfl,rfl,rfl,trivial⟩ (x:=[(8,(5,10),.box [.int .i64 4,.int .i64 0,.str ⟨#[]⟩,.row 1002 (νb 1002),.row 1003 (νb 1003)])]) (x':=[(8,νb 8,.box [.int .i64 4,.int .i64 0,.str ⟨#[]⟩,.row 1002 (νb 1002),.row 1003 (νb 1003)])]) rfl rfl rfl (Zp rfl (AP _)) rfl)) ?_ (CY _ _)
   repeat refine A3 ?_
   refine QG [_] νb (QD ⟨kind,tag,count-2,list,args⟩ e2 r2 (by simp at hr1;omega)) rfl rfl rfl rfl ?_
   refine A3 ?_
   refine CU (eJ (2,1+1000000 * (1000+1)) (1,8) νb (tm':=[(0,.ptr 0 (0,0) 0),(1,.int .i64 (c-2)),(5,.ptr 300 (1,300) 0),(8,.ptr 8 (1,8) 0)]) ⟨rfl,rfl,rfl,rfl,trivial⟩) ?_ (CY _ _)
   repeat refine A3 ?_
   obtain ⟨e3,h3,he4⟩:=Ya.1 he4
   by_cases h1:count-2=1
   ·rw [if_pos h1] at h3
    rw [Yh h1]
    have hf3:=CF hf2 h3
    repeat (first | (refine Zv rfl rfl ?_) | (refine ZD [_,_] νb (CN e2 r2 _ hf2.1 hf2.2 e3 h3) rfl rfl rfl rfl rfl rfl ?_) | (refine ZD [_,_] (νc _ _) (KE e3 r2 _ hf3.1 e4 he4) rfl rfl rfl rfl rfl rfl ?_) | refine A3 ?_)
    exact C7 (f,c-2,e4,r2) 2 ⟨hf4,h⟩ (EI _) (CA (νc 4 2) [_,_] (fun k=>(k,νc 4 2 k)) (fun _ _=>rfl) rfl ⟨rfl,rfl,trivial⟩ (x:=[]) (x':=[]) rfl rfl rfl (AP _) rfl)
   ·rw [if_neg h1] at h3
    cases h3
    rw [Yf h1]
    repeat (first | (refine Zk rfl rfl ?_) | (refine ZD [_,_] νb (KE e2 r2 _ hf2.1 e4 he4) rfl rfl rfl rfl rfl rfl ?_) | refine A3 ?_)
    exact C7 (f,c-2,e4,r2) 2 ⟨hf4,h⟩ (EI _) (CA (νc 3 2) [_,_] (fun k=>(k,νc 3 2 k)) (fun _ _=>rfl) rfl ⟨rfl,rfl,trivial⟩ (x:=[]) (x':=[]) rfl rfl rfl (AP _) rfl)}
def IL (k t c:Int) (x:Q1) (e:El) (r:Q3 El):Q2 (El×Q3 El):=if 20<=r.length then (AM e x).map fun e'=>(e',r) else some (⟨k,t,c,[],none⟩,e::r)
def KJ (e:El):Q2 El:=if e.kind=3 then match e.args with | none=>some ⟨e.kind,e.tag,e.count,e.list,some ([],⟨false,[],[]⟩)⟩ | some (pre,a)=>if pre.length+1<=1000000 then some ⟨e.kind,e.tag,e.count,e.list,some (pre ++ [a],⟨false,[],[]⟩)⟩ else none else AM e ⟨#[124]⟩
def M8 (s:Q1) (t:Tok) (e:El) (r:Q3 El):Q2 (El×Q3 El):=(H8 s t).bind fun x=>if t.kind=1\/t.kind=2 then (AM e x).map fun e'=>(e',r) else if t.kind=9 then (EG e ⟨2,0,x,[],[]⟩).map fun e'=>(e',r) else if t.kind=10 then (AJ x 8 (w64 ((x.size:Int)-9))).bind fun y=>(EG e ⟨3,0,y,[],[]⟩).map fun e'=>(e',r) else if t.kind=3 then IL 3 0 x.size x e r else if t.kind=5 then IL 1 0 0 x e r else if t.kind=11 then (K8 s t).bind fun k=>IL 2 k 0 x e r else if t.kind=7 then (KJ e).map fun e'=>(e',r) else if t.kind=8 then (KF e).map fun e'=>(e',r) else if t.kind=6 then KH e r else if t.kind=12 then (K8 s t).bind fun k=>KI k x e r else if t.kind=4 then FT (x.size+1) x.size e r else some (e,r)
theorem ZAk (e e':El) (r:Q3 El) (hf:fit e r) (h:KJ e=some e'):PC 106 [] e r (.tup []) e' r:=by{
unfold KJ at h
split at h
rename_i hk
obtain ⟨kind,tag,count,list,args⟩:=e
dsimp only at hk
subst hk
rcases args with _ | ⟨pre,a⟩
injection h with h
rw [<- h]
exact ZvP tag count list r hf.1.1
dsimp only at h
split at h
injection h with h
rw [<- h]
exact ZvR tag count list pre a r hf.1
cases h
rename_i hk
exact ZvO e e' r hf.1 hf.2 hk h}
theorem Zv1 {e e':El} {r:Q3 El} (hf:fit e r) (h:KJ e=some e'):fit e' r:=by{
unfold KJ at h
split at h
rename_i hk
obtain ⟨kind,tag,count,list,args⟩:=e
dsimp only at hk
subst hk
rcases args with _ | ⟨pre,a⟩
injection h with h
rw [<- h]
exact ⟨⟨hf.1.1,fun q hq=>by injection hq with hq;rw [<- hq];exact YJ _⟩,by show 0<=_;omega⟩
dsimp only at h
split at h
rename_i hp
injection h with h
rw [<- h]
exact ⟨⟨hf.1.1,fun q hq=>by injection hq with hq;rw [<- hq];simpa using hp⟩,by show 0<=_;omega⟩
cases h
exact CF hf h}
theorem Zx1 (e e':El) (r:Q3 El) (hf:fit e r) (h:KF e=some e'):PC 107 [] e r (.tup []) e' r:=by{
obtain ⟨kind,tag,count,list,args⟩:=e
unfold KF at h
rcases args with _ | ⟨pre,⟨named,name,value⟩⟩
exact oG _ e' r hf.1 hf.2 (.inr (.inl rfl)) h
dsimp only at h
split at h
rename_i hc
obtain ⟨h1,h2⟩:=hc
subst h1 h2
injection h with h
rw [<- h]
exact Zs6 tag count list pre name value r hf.1
rename_i hc
refine oG _ e' r hf.1 hf.2 ?_ h
by_cases hk:kind=3
refine .inr (.inr ⟨pre,_,rfl,?_⟩)
cases named
exact absurd ⟨hk,rfl⟩ hc
rfl
exact .inl hk}
theorem ZrZ {e e':El} {r:Q3 El} (hf:fit e r) (h:KF e=some e'):fit e' r:=by{
obtain ⟨kind,tag,count,list,args⟩:=e
unfold KF at h
rcases args with _ | ⟨pre,⟨named,name,value⟩⟩
exact CF hf h
dsimp only at h
split at h
rename_i hc
obtain ⟨h1,h2⟩:=hc
subst h1 h2
injection h with h
rw [<- h]
exact ⟨⟨hf.1.1,fun q hq=>by injection hq with hq;rw [<- hq];exact hf.1.2 (pre,⟨false,name,value⟩) rfl⟩,by show 0<=_;omega⟩
exact CF hf h}
theorem ZpT (e e':El) (r r':Q3 El) (hf:fits e r) (h:KH e r=some (e',r')):PC 108 [] e r (.tup []) e' r':=by{
unfold KH at h
split at h
rename_i hk
rcases r with _ | ⟨e2,r⟩
cases h
obtain ⟨a,h1,h⟩:=Ya.1 h
obtain ⟨b,h2,h⟩:=Ya.1 h
obtain ⟨c,h3,h⟩:=Ye.1 h
injection h with q1 q2
subst q1 q2
obtain ⟨kind,tag,count,list,args⟩:=e
dsimp only at hk
subst hk
exact Znt tag count list args e2 a b c r (DD hf).1 (BR (DD hf)) h1 h2 h3
rename_i hk
obtain ⟨c,h3,h⟩:=Ye.1 h
injection h with q1 q2
subst q1 q2
exact Zme e c r (BR hf) hk h3}
theorem Zle {e e':El} {r r':Q3 El} (hf:fits e r) (h:KH e r=some (e',r')):fits e' r':=by{
unfold KH at h
split at h
rcases r with _ | ⟨e2,r⟩
cases h
obtain ⟨a,h1,h⟩:=Ya.1 h
obtain ⟨b,h2,h⟩:=Ya.1 h
obtain ⟨c,h3,h⟩:=Ye.1 h
injection h with q1 q2
subst q1 q2
exact F5 (DD hf) (CF (NK (CF (BR (DD hf)) h1) h2) h3)
obtain ⟨c,h3,h⟩:=Ye.1 h
injection h with q1 q2
subst q1 q2
exact F5 hf (CF (BR hf) h3)}
theorem Zmf {k:Int} {s:Q1} {e e':El} {r r':Q3 El} (hf:fits e r) (h:KI k s e r=some (e',r')):fits e' r':=by{
unfold KI at h
split at h
obtain ⟨c,h3,h⟩:=Ye.1 h
injection h with q1 q2
subst q1 q2
exact F5 hf (CF (BR hf) h3)
obtain ⟨⟨e1,r1⟩,h1,h⟩:=Ya.1 h
have hf1:=XD hf h1
rcases r1 with _ | ⟨e2,r2⟩
cases h
obtain ⟨c,h3,h⟩:=Ye.1 h
injection h with q1 q2
subst q1 q2
exact F5 (DD hf1) (QF (BR (DD hf1)) h3)}
theorem oU {c:Int} {e e':El} {r r':Q3 El} (hf:fits e r) (h:M7 c e r=some (e',r')):fits e' r':=by{
obtain ⟨s,hs,h⟩:=Ya.1 h
obtain ⟨a,h3,h⟩:=Ye.1 h
injection h with q1 q2
subst q1 q2
exact F5 hf (CF (BR hf) h3)}
theorem eP:∀ {f:Nat} {c:Int} {e e':El} {r r':Q3 El},fits e r->FT f c e r=some (e',r')->fits e' r'
 | 0,c,e,e',r,r',hf,h=>by cases h
 | f+1,c,e,e',r,r',hf,h=>by
   unfold FT at h
   split at h
   split at h
   exact oU hf h
   obtain ⟨⟨e1,r1⟩,h1,h⟩:=Ya.1 h
   have hf1:=XD hf h1
   split at h
   split at h
   exact eP (F5 hf1 ⟨⟨by have:=hf1.1;omega,fun q hq=>by cases hq⟩,by show 1<=9223372036854775807;omega⟩) h
   rcases r1 with _ | ⟨e2,r2⟩
   cases h
   obtain ⟨e4,h4,h⟩:=Ya.1 h
   exact eP (F5 (DD hf1) (XC (BR (DD hf1)) h4)) h
   cases h
   exact oU hf h
theorem eQ {k t c:Int} {x:Q1} {e e':El} {r r':Q3 El} (hf:fits e r) (h:IL k t c x e r=some (e',r')):fits e' r':=by{
unfold IL at h
split at h
obtain ⟨a,h3,h⟩:=Ye.1 h
injection h with q1 q2
subst q1 q2
exact F5 hf (CF (BR hf) h3)
injection h with h
injection h with q1 q2
subst q1 q2
refine ⟨by simp;omega,fun x hx=>?_⟩
rcases Ys.1 hx with rfl | hx
exact ⟨fun q hq=>(by cases hq),(by show 0<=_;omega)⟩
exact hf.2 x hx}
theorem eR (k t c:Int) (x:Q1) (e e':El) (r r':Q3 El) (hf:fits e r) (h:IL k t c x e r=some (e',r')) :
  ContractG Q7 104 [.ptr 0 (0,0) 0,.ptr 1 (0,1) 0,.str x] (objs (stP νa e r)++QE k t c) (.tup []) (stP νb e' r' ++ []):=by{
rw [YB]
unfold IL at h
split at h
rename_i hr
obtain ⟨a,h3,h⟩:=Ye.1 h
injection h with q1 q2
subst q1 q2
exact ZtG e a r k t c x hr (BR hf).1 (BR hf).2 h3
rename_i hr
injection h with h
injection h with q1 q2
subst q1 q2
exact ZtH e r k t c x (by omega)}
theorem oV {s:Q1} {t:Tok} {e e':El} {r r':Q3 El} (hf:fits e r) (h:M8 s t e r=some (e',r')):fits e' r':=by{
obtain ⟨x,hx,h⟩:=Ya.1 h
have one:∀ {o:Q2 El},(∀ a,o=some a->fit a r)->o.map (fun e'=>(e',r))=some (e',r')->fits e' r':=fun h1 h=>by
 obtain ⟨a,h3,h⟩:=Ye.1 h
 injection h with q1 q2
 subst q1 q2
 exact F5 hf (h1 a h3)
split at h
exact one (fun a ha=>CF (BR hf) ha) h
split at h
exact one (fun a ha=>QF (BR hf) ha) h
split at h
obtain ⟨y,hy,h⟩:=Ya.1 h
exact one (fun a ha=>QF (BR hf) ha) h
split at h
exact eQ hf h
split at h
exact eQ hf h
split at h
obtain ⟨y,hy,h⟩:=Ya.1 h
exact eQ hf h
split at h
exact one (fun a ha=>Zv1 (BR hf) ha) h
split at h
exact one (fun a ha=>ZrZ (BR hf) ha) h
split at h
exact Zle hf h
split at h
obtain ⟨y,hy,h⟩:=Ya.1 h
exact Zmf hf h
split at h
exact eP hf h
injection h with h
injection h with q1 q2
subst q1 q2
exact hf}
theorem Zzm (s:Q1) (t:Tok) (e e':El) (r r':Q3 El) (hf:fits e r) (h:M8 s t e r=some (e',r')):PC 63 [.str s,t.pv] e r (.tup []) e' r':=by{
have hft:=BR hf
obtain ⟨x,hx,h⟩:=Ya.1 h
obtain ⟨tk,tf,tt⟩:=t
refine ZI mix Tryz.func63 ?_
rw [CT]
repeat (first | (refine DU (m8 _ _ _ hx) rfl rfl ?_) | refine A3 ?_)
by_cases h1:tk=1
·subst h1
 rw [if_pos (show (1:Int)=1\/(1:Int)=2 by decide)] at h
 obtain ⟨a,ha,h⟩:=Ye.1 h
 injection h with q1 q2
 subst q1 q2
 repeat (first | (refine Zv rfl rfl ?_) | (refine ZD [_] νa (CN e r x hft.1 hft.2 a ha) rfl rfl rfl rfl rfl rfl ?_) | refine A3 ?_)
 exact BW (.inr rfl) (νc _ _) [_] [] rfl rfl trivial rfl rfl
by_cases h2:tk=2
·subst h2
 rw [if_pos (show (2:Int)=1\/(2:Int)=2 by decide)] at h
 obtain ⟨a,ha,h⟩:=Ye.1 h
 injection h with q1 q2
 subst q1 q2
 repeat (first | (refine Zv rfl rfl ?_) | (refine Zk rfl rfl ?_) | (refine ZD [_] νa (CN e r x hft.1 hft.2 a ha) rfl rfl rfl rfl rfl rfl ?_) | refine A3 ?_)
 exact BW (.inr rfl) (νc _ _) [_] [] rfl rfl trivial rfl rfl
by_cases h9:tk=9
·subst h9
 rw [if_neg (show ¬ ((9:Int)=1\/(9:Int)=2) by decide),if_pos (show (9:Int)=9 by decide)] at h
 obtain ⟨a,ha,h⟩:=Ye.1 h
 injection h with q1 q2
 subst q1 q2
 repeat (first | (refine Zv rfl rfl ?_) | (refine Zk rfl rfl ?_) | (refine ZD [_] νa (oT e a r 2 0 x hft.1 ha) rfl rfl rfl rfl rfl rfl ?_) | refine A3 ?_)
 exact BW (.inr rfl) (νc _ _) [_] [] rfl rfl trivial rfl rfl
by_cases h10:tk=10
·subst h10
 rw [if_neg (show ¬ ((10:Int)=1\/(10:Int)=2) by decide),if_neg (show ¬ (10:Int)=9 by decide),if_pos (show (10:Int)=10 by decide)] at h
 obtain ⟨y,hy,h⟩:=Ya.1 h
 obtain ⟨a,ha,h⟩:=Ye.1 h
 injection h with q1 q2
 subst q1 q2
 repeat (first | (refine Zv rfl rfl ?_) | (refine Zk rfl rfl ?_) | (refine jV StrT.eq rfl hy rfl rfl rfl ?_) | (refine ZD [_] νa (oT e a r 3 0 y hft.1 ha) rfl rfl rfl rfl rfl rfl ?_) | refine IE Tryz.underlying9 rfl rfl ?_ | refine A3 ?_)
 exact BW (.inr rfl) (νc _ _) [_] [] rfl rfl trivial rfl rfl
by_cases h3:tk=3
·subst h3
 rw [if_neg (show ¬ ((3:Int)=1\/(3:Int)=2) by decide),if_neg (show ¬ (3:Int)=9 by decide),if_neg (show ¬ (3:Int)=10 by decide),if_pos (show (3:Int)=3 by decide)] at h
 repeat (first | (refine Zv rfl rfl ?_) | (refine Zk rfl rfl ?_) | refine IE Tryz.underlying9 rfl rfl ?_ | refine A3 ?_)
 refine X4 (xin:=QE _ _ _) (ext:=[]) (ext2:=[]) [_,_] νa (fun _=>40) (fun _=>(9,4)) (eR 3 0 x.size x e e' r r' hf h) rfl rfl rfl rfl (Yi ..) ⟨⟨_,rfl,rfl⟩,trivial⟩ (fun _ _=>⟨_,Yg _ (Yi ..)⟩) rfl rfl rfl rfl ?_
 repeat refine A3 ?_
 exact BW (.inr rfl) (νc _ _) [_,_,_] [] rfl rfl trivial rfl rfl
by_cases h5:tk=5
·subst h5
 rw [if_neg (show ¬ ((5:Int)=1\/(5:Int)=2) by decide),if_neg (show ¬ (5:Int)=9 by decide),if_neg (show ¬ (5:Int)=10 by decide),if_neg (show ¬ (5:Int)=3 by decide),if_pos (show (5:Int)=5 by decide)] at h
 repeat (first | (refine Zv rfl rfl ?_) | (refine Zk rfl rfl ?_) | refine A3 ?_)
 refine X4 (xin:=QE _ _ _) (ext:=[]) (ext2:=[]) [_,_] νa (fun _=>47) (fun _=>(10,2)) (eR 1 0 0 x e e' r r' hf h) rfl rfl rfl rfl (Yi ..) ⟨⟨_,rfl,rfl⟩,trivial⟩ (fun _ _=>⟨_,Yg _ (Yi ..)⟩) rfl rfl rfl rfl ?_
 repeat refine A3 ?_
 exact BW (.inr rfl) (νc _ _) [_,_,_] [] rfl rfl trivial rfl rfl
by_cases h11:tk=11
·subst h11
 rw [if_neg (show ¬ ((11:Int)=1\/(11:Int)=2) by decide),if_neg (show ¬ (11:Int)=9 by decide),if_neg (show ¬ (11:Int)=10 by decide),if_neg (show ¬ (11:Int)=3 by decide),if_neg (show ¬ (11:Int)=5 by decide),if_pos (show (11:Int)=11 by decide)] at h
 obtain ⟨k,hk,h⟩:=Ya.1 h
 repeat (first | (refine Zv rfl rfl ?_) | (refine Zk rfl rfl ?_) | (refine DU (m9 _ _ _ hk) rfl rfl ?_) | refine A3 ?_)
 refine X4 (xin:=QE _ _ _) (ext:=[]) (ext2:=[]) [_,_] νa (fun _=>57) (fun _=>(11,5)) (eR 2 k 0 x e e' r r' hf h) rfl rfl rfl rfl (Yi ..) ⟨⟨_,rfl,rfl⟩,trivial⟩ (fun _ _=>⟨_,Yg _ (Yi ..)⟩) rfl rfl rfl rfl ?_
 repeat refine A3 ?_
 exact BW (.inr rfl) (νc _ _) [_,_,_] [] rfl rfl trivial rfl rfl
by_cases h7:tk=7
·subst h7
 rw [if_neg (show ¬ ((7:Int)=1\/(7:Int)=2) by decide),if_neg (show ¬ (7:Int)=9 by decide),if_neg (show ¬ (7:Int)=10 by decide),if_neg (show ¬ (7:Int)=3 by decide),if_neg (show ¬ (7:Int)=5 by decide),if_neg (show ¬ (7:Int)=11 by decide),if_pos (show (7:Int)=7 by decide)] at h
 obtain ⟨a,ha,h⟩:=Ye.1 h
 injection h with q1 q2
 subst q1 q2
 repeat (first | (refine Zv rfl rfl ?_) | (refine Zk rfl rfl ?_) | (refine ZD [_] νa (ZAk e a r hft ha) rfl rfl rfl rfl rfl rfl ?_) | refine A3 ?_)
 exact BW (.inr rfl) (νc _ _) [_] [] rfl rfl trivial rfl rfl
by_cases h8:tk=8
·subst h8
 rw [if_neg (show ¬ ((8:Int)=1\/(8:Int)=2) by decide),if_neg (show ¬ (8:Int)=9 by decide),if_neg (show ¬ (8:Int)=10 by decide),if_neg (show ¬ (8:Int)=3 by decide),if_neg (show ¬ (8:Int)=5 by decide),if_neg (show ¬ (8:Int)=11 by decide),if_neg (show ¬ (8:Int)=7 by decide),if_pos (show (8:Int)=8 by decide)] at h
 obtain ⟨a,ha,h⟩:=Ye.1 h
 injection h with q1 q2
 subst q1 q2
 repeat (first | (refine Zv rfl rfl ?_) | (refine Zk rfl rfl ?_) | (refine ZD [_] νa (Zx1 e a r hft ha) rfl rfl rfl rfl rfl rfl ?_) | refine A3 ?_)
 exact BW (.inr rfl) (νc _ _) [_] [] rfl rfl trivial rfl rfl
by_cases h6:tk=6
·subst h6
 rw [if_neg (show ¬ ((6:Int)=1\/(6:Int)=2) by decide),if_neg (show ¬ (6:Int)=9 by decide),if_neg (show ¬ (6:Int)=10 by decide),if_neg (show ¬ (6:Int)=3 by decide),if_neg (show ¬ (6:Int)=5 by decide),if_neg (show ¬ (6:Int)=11 by decide),if_neg (show ¬ (6:Int)=7 by decide),if_neg (show ¬ (6:Int)=8 by decide),if_pos (show (6:Int)=6 by decide)] at h
 repeat (first | (refine Zv rfl rfl ?_) | (refine Zk rfl rfl ?_) | (refine ZD [_] νa (ZpT e e' r r' hf h) rfl rfl rfl rfl rfl rfl ?_) | refine A3 ?_)
 exact BW (.inr rfl) (νc _ _) [_] [] rfl rfl trivial rfl rfl
by_cases h12:tk=12
·subst h12
 rw [if_neg (show ¬ ((12:Int)=1\/(12:Int)=2) by decide),if_neg (show ¬ (12:Int)=9 by decide),if_neg (show ¬ (12:Int)=10 by decide),if_neg (show ¬ (12:Int)=3 by decide),if_neg (show ¬ (12:Int)=5 by decide),if_neg (show ¬ (12:Int)=11 by decide),if_neg (show ¬ (12:Int)=7 by decide),if_neg (show ¬ (12:Int)=8 by decide),if_neg (show ¬ (12:Int)=6 by decide),if_pos (show (12:Int)=12 by decide)] at h
 obtain ⟨k,hk,h⟩:=Ya.1 h
 repeat (first | (refine Zv rfl rfl ?_) | (refine Zk rfl rfl ?_) | (refine DU (m9 _ _ _ hk) rfl rfl ?_) | (refine ZD [_] νa (Zsu k x e e' r r' hf h) rfl rfl rfl rfl rfl rfl ?_) | refine A3 ?_)
 exact BW (.inr rfl) (νc _ _) [_] [] rfl rfl trivial rfl rfl
by_cases h4:tk=4
·subst h4
 rw [if_neg (show ¬ ((4:Int)=1\/(4:Int)=2) by decide),if_neg (show ¬ (4:Int)=9 by decide),if_neg (show ¬ (4:Int)=10 by decide),if_neg (show ¬ (4:Int)=3 by decide),if_neg (show ¬ (4:Int)=5 by decide),if_neg (show ¬ (4:Int)=11 by decide),if_neg (show ¬ (4:Int)=7 by decide),if_neg (show ¬ (4:Int)=8 by decide),if_neg (show ¬ (4:Int)=6 by decide),if_neg (show ¬ (4:Int)=12 by decide),if_pos (show (4:Int)=4 by decide)] at h
 repeat (first | (refine Zv rfl rfl ?_) | (refine Zk rfl rfl ?_) | (refine ZD [_] νa (Zob _ x.size e e' r r' hf h) rfl rfl rfl rfl rfl rfl ?_) | refine IE Tryz.underlying9 rfl rfl ?_ | refine A3 ?_)
 exact BW (.inr rfl) (νc _ _) [_] [] rfl rfl trivial rfl rfl
rw [if_neg (fun q:tk=1\/tk=2=>q.elim h1 h2),if_neg h9,if_neg h10,if_neg h3,if_neg h5,if_neg h11,if_neg h7,if_neg h8,if_neg h6,if_neg h12,if_neg h4] at h
injection h with h
injection h with q1 q2
subst q1 q2
rw [Yf h1]
repeat (first | (refine Zk rfl rfl ?_) | refine A3 ?_)
rw [Yf h2]
repeat (first | (refine Zk rfl rfl ?_) | refine A3 ?_)
rw [Yf h9]
repeat (first | (refine Zk rfl rfl ?_) | refine A3 ?_)
rw [Yf h10]
repeat (first | (refine Zk rfl rfl ?_) | refine A3 ?_)
rw [Yf h3]
repeat (first | (refine Zk rfl rfl ?_) | refine A3 ?_)
rw [Yf h5]
repeat (first | (refine Zk rfl rfl ?_) | refine A3 ?_)
rw [Yf h11]
repeat (first | (refine Zk rfl rfl ?_) | refine A3 ?_)
rw [Yf h7]
repeat (first | (refine Zk rfl rfl ?_) | refine A3 ?_)
rw [Yf h8]
repeat (first | (refine Zk rfl rfl ?_) | refine A3 ?_)
rw [Yf h6]
repeat (first | (refine Zk rfl rfl ?_) | refine A3 ?_)
rw [Yf h12]
repeat (first | (refine Zk rfl rfl ?_) | refine A3 ?_)
rw [Yf h4]
repeat (first | (refine Zk rfl rfl ?_) | refine A3 ?_)
exact BW (.inr rfl) νa [_] [] rfl rfl trivial rfl rfl}
def νp (k:Nat):Gen:=(1,k)
theorem eS (ν:Nat->Gen) {e:El} {r:Q3 El} (lits:Q3 (Nat×Q2 (Gen×VObj))) {tm tm':Q3 (Nat×PV)} {ob:Q3 (Nat×Q2 (Gen×VObj))} {ng:Nat} (h1:E8 (σf fun k=>(k,ν k)) tm tm') (hob:ob=lits++somes (stP ν e r)) (hl:(lits.all fun q=>!BN q.1)=true) :
  Shift (mkS tm ob ng) (mkS tm' (somes (stP νp e r)) 2):=
 KA _ h1 (P7 (ν:=νp) (ν':=ν) (fun _ _=>rfl) e r) (by rw [hob];exact DL hl) (DV _ _ _)
def KK (s:Q1):Q3 Tok->El->Q3 El->Q2 (El×Q3 El) | [],e,r=>some (e,r) | t::l,e,r=>(M8 s t e r).bind fun q=>KK s l q.1 q.2
theorem oW {s:Q1}:∀ {l:Q3 Tok} {e e':El} {r r':Q3 El},fits e r->KK s l e r=some (e',r')->fits e' r'
 | [],e,e',r,r',hf,h=>by injection h with h;injection h with h1 h2;rw [<- h1,<- h2];exact hf
 | t::l,e,e',r,r',hf,h=>by
   obtain ⟨⟨e1,r1⟩,h1,h⟩:=Ya.1 h
   exact oW (oV hf h1) h
def XE (s:Q1):Q2 (Q3 (Q3 PV)×Int):=(TD s).bind fun q=>if q.2=0 then (if q.1.length<=4611686018427387904 then (KK s q.1 ⟨0,0,0,[],none⟩ []).bind fun p=>(F6 p.2.length p.1 p.2).map fun z=>(z.1.list,0) else none) else some ([],q.2)
abbrev startf (k:Nat):Nat×Gen:=if k=0 then (21,(4,4)) else if k=1000 then (19,(4,2)) else if k=1001 then (18,(4,1)) else if k=1002 then (60,(6,0)) else (61,(7,0))
theorem ZvX (s:Q1) (res:Q3 (Q3 PV)×Int) (h:XE s=some res):Zg Q7 29 [.str s] (.tup [.sl res.1,.int .i64 res.2]):=by{
obtain ⟨⟨l,e0⟩,hq,h⟩:=Ya.1 h
refine LD mix Tryz.func29 (by kernel_rfl) rfl (by kernel_rfl) ?_
repeat (first | (refine DU (Zoq _ _ hq) rfl rfl ?_) | refine A3 ?_)
dsimp only at h
by_cases he:e0=0
rotate_left
·rw [if_neg he] at h
 cases h
 rw [Yf he]
 repeat (first | (refine Zv rfl rfl ?_) | refine A3 ?_)
 exact FI rfl rfl rfl
rw [if_pos he] at h
by_cases hl:l.length<=4611686018427387904
rotate_left
rw [if_neg hl] at h
cases h
rw [if_pos hl] at h
obtain ⟨⟨e1,r1⟩,hp,h⟩:=Ya.1 h
obtain ⟨⟨e2,r2⟩,hz,h⟩:=Ye.1 h
subst h
rw [Yh he]
have hf0:fits ⟨0,0,0,[],none⟩ []:=⟨YJ _,fun x hx=>by
 rw [YG.1 hx]
 exact ⟨fun q hq=>(by cases hq),YJ _⟩⟩
have hf1:=oW hf0 hp
repeat (first | (refine Zk rfl rfl ?_) | (refine VZ rfl rfl rfl rfl (Yk rfl) rfl ?_) | refine A3 ?_)
refine Zu (fun (a:Nat×El×Q3 El) _=>mkS [(0,.str s),(6,.ptr 0 (1,0) 0),(22,.sl (l.map Tok.cs)),(23,Q5 ((l.map Tok.cs).length:Int)),(24,Q5 ((a.1:Nat):Int))] (somes (stP νp a.2.1 a.2.2)) 2) (fun a=>a.1<=l.length/\fits a.2.1 a.2.2/\KK s (l.drop a.1) a.2.1 a.2.2=some (e1,r1)) (fun a=>l.length-a.1) (0,⟨0,0,0,[],none⟩,[]) 2 ⟨YJ _,hf0,hp⟩
 (Shift.trans (H4 18 60 3 78 5 rfl rfl rfl) (Shift.trans (H4 18 61 4 111 3 rfl rfl rfl) (Shift.trans (LI (t:=61) rfl) (KA startf ⟨rfl,rfl,rfl,rfl,rfl,trivial⟩ rfl (Zp rfl (Zp rfl (Zp rfl (Zp rfl (Zp rfl (AP _)))))) (by decide))))) (fun a ng hJ=>?_)
obtain ⟨q,e3,r3⟩:=a
obtain ⟨hqq,hf3,ht⟩:=hJ
dsimp only at hqq hf3 ht ⊢
repeat refine A3 ?_
by_cases hlt:q<l.length
·refine Zv (by (conv=>lhs;whnf);try rfl) (by simp;omega) ?_
 rw [Yt hlt] at ht
 obtain ⟨⟨e4,r4⟩,h4,ht⟩:=Ya.1 ht
 have hcs:(l.map Tok.cs)[q]? = some (Tok.cs l[q]):=by rw [Yw,Yc hlt];rfl
 repeat (first | (refine OS rfl rfl rfl hcs rfl ?_) | (refine ZD [_,_] νp (Zzm s _ e3 e4 r3 r4 hf3 h4) rfl rfl rfl rfl rfl rfl ?_) | refine MZ rfl rfl (by omega) ?_ | refine A3 ?_)
 exact C7 (q+1,e4,r4) 2 ⟨by dsimp only;omega,oV hf3 h4,ht⟩ (by dsimp only;omega) (eS (νn (1,0) 4 3) [_,_] ⟨rfl,rfl,rfl,rfl,rfl,trivial⟩ rfl rfl)
·refine Zk (by (conv=>lhs;whnf);try rfl) (by simp;omega) ?_
 obtain rfl:q=l.length:=by omega
 rw [GF] at ht
 injection ht with ht
 injection ht with q1 q2
 subst q1 q2
 repeat refine A3 ?_
 refine Zu (fun (a:El×Q3 El) _=>mkS [(6,.ptr 0 (1,0) 0)] (somes (stP νp a.1 a.2)) 2) (fun a=>fits a.1 a.2/\F6 a.2.length a.1 a.2=some (e2,r2)) (fun a=>a.2.length) (e3,r3) 2 ⟨hf3,hz⟩ (eS νp [] ⟨rfl,trivial⟩ rfl rfl) (fun a ng hJ=>?_)
 obtain ⟨e5,r5⟩:=a
 obtain ⟨hf5,hft⟩:=hJ
 dsimp only at hf5 hft ⊢
 have hr5:=hf5.1
 repeat (first | (refine CM rfl rfl (ED _ _ _) ?_) | refine A3 ?_)
 rcases r5 with _ | ⟨e6,r6⟩
 ·injection hft with hft
  injection hft with q1 q2
  subst q1 q2
  repeat (first | (refine Zk rfl rfl ?_) | (refine CB [] νp (CE e5 [] (YJ _)) rfl rfl rfl rfl rfl rfl ?_) | refine A3 ?_)
  exact FI rfl rfl rfl
 ·rw [show decide ((1:Int)<(((e6::r6).length+1:Nat):Int))=true from Yh (by simp;omega)]
  obtain ⟨e7,he7,hft⟩:=Ya.1 hft
  repeat (first | (refine Zv rfl rfl ?_) | (refine ZD [] νp (eK e5 e6 e7 r6 (by simp at hr5;omega) (BR (DD hf5)) he7) rfl rfl rfl rfl rfl rfl ?_) | refine A3 ?_)
  exact C7 (e7,r6) 2 ⟨XB hf5 he7,hft⟩ (by dsimp only;simp) (eS (νn (1,0) 3 1) [] ⟨rfl,trivial⟩ rfl rfl)}
def QJ (s:Q1):Q2 (Q3 Node×Int):=(XE s).bind fun q=>(AV q.1).map fun l=>(l,q.2)
theorem Zny (s:Q1) (r:Q3 Node×Int) (h:QJ s=some r):Zg Q7 29 [.str s] (.tup [.sl (List.map Node.cs r.1),.int .i64 r.2]):=by{
obtain ⟨q,hq,h⟩:=Ya.1 h
obtain ⟨l,hl,h⟩:=Ye.1 h
subst h
have:=ZvX s q hq
rw [G6 hl] at this
exact this}
end
section
open VL Go.RowKit
theorem oX (B b:Nat) (bs:Q3 Value) (s:Q1) (w:World) (h:Lib.IsBuilderF 186 5 B b bs w) (hlen:bs.length+s.size<=140737488355328) (hBw:B<=w.heap.size) :
  Calls Q7 174 #[.pointer (some ⟨b,0,none⟩),.string s] w fun e w'=>e = .returned (.tuple #[.int .i64 s.size,.nilIface])/\(Lib.BuilderAtF 186 5 B b (.pointer (some ⟨b,0,none⟩)) (bs++Lib.strCells s) w'/\Below B w w'):=
 Any.Builder_WriteString_f (P:=Q7) (ρ:=Tryz.lays105_ren) { Tryz.lays105 with } Tryz.Builder_Extra_105 B b bs s w h hlen hBw
structure SlW where
 a:Option Addr
 n:Nat
 c:Nat
structure NodeW where
 kind:Int
 tag:Int
 text:ByteArray
 kids:SlW
 args:SlW
instance:Enc NodeW where
 k:=5
 R _ _ x cs:=cs = [.int .i64 x.kind,.int .i64 x.tag,.string x.text,.slice x.kids.a x.kids.n x.kids.c,.slice x.args.a x.args.n x.args.c]
 len h:=by rw [h];rfl
 one h:=by
  obtain rfl:=h
  intro u hu
  simp only [Ys,JM,or_false] at hu
  rcases hu with rfl | rfl | rfl | rfl | rfl<;>rfl
 keep _ _ h:=h
 weak _ h:=h
def HH (acc:Q3 Q4):Q3 NodeW->Q2 (Q2 (Q3 Q4)) | []=>some (some acc) | x::xs=>if x.kind=1\/x.kind=3 then (if acc.length+x.text.size<=140737488355328 then HH (acc++x.text.data.toList) xs else none) else if x.kind=2 then HH acc xs else some none
def XF:Q2 (Q3 Q4)->Value | some l=>.tuple #[.string ⟨l.toArray⟩,.bool true] | none=>.tuple #[.string ⟨#[]⟩,.bool false]
theorem Zum (A:Q2 Addr) (n c:Nat) (xs:Q3 NodeW) (r:Q2 (Q3 Q4)) (hr:HH [] xs=some r) (w:World) (hS:SlR w A n c xs) :
  Calls Q7 117 #[.slice A n c] w fun e w'=>e = .returned (XF r)/\Below w.heap.size w w':=by{
have HN:=Lib.hid hS.1
have hle:=hS.le
go_enter Tryz.func117,Tryz.ntmps117
go_wp2
go_loopw [9] (fun i wr=>∃ (q:Nat) (acc:Q3 Q4),q<=n/\i = .int .i64 q/\Below w.heap.size w wr/\Lib.IsBuilderF 186 5 w.heap.size w.heap.size (Lib.byteCells acc) wr/\Hid (HH acc (xs.drop q)=some r)) (fun i _=>n-(intOf i).toNat)
case atStart=>
 exact ⟨0,[],YJ _,rfl,(Below.refl _ w).alloc (Yn _) _,Lib.IsBuilderF.of (Lib.fresh_isBuilder 186 5 w),hr⟩
case round=>
 obtain ⟨q,acc,hq,rfl,hbw,hI,hF⟩:=hrel
 have HW:=Lib.hid hbw
 clear hbw
 by_cases hlt:q<n
 obtain ⟨b,off,x,cs,hA,hbl,hx,hd,hR,hc⟩:=(SlR.mono HW.out hS).elem hlt
 obtain rfl:=hA
 have d0:wr.cell? ⟨b,off+q * 5,none⟩=some (.int .i64 x.kind):=by subst hR;exact hc 0 _ rfl
 have d1:wr.cell? ⟨b,off+q * 5+1,none⟩=some (.int .i64 x.tag):=by subst hR;exact hc 1 _ rfl
 have d2:wr.cell? ⟨b,off+q * 5+2,none⟩=some (.string x.text):=by subst hR;exact hc 2 _ rfl
 have d3:wr.cell? ⟨b,off+q * 5+3,none⟩=some (.slice x.kids.a x.kids.n x.kids.c):=by subst hR;exact hc 3 _ rfl
 have d4:wr.cell? ⟨b,off+q * 5+4,none⟩=some (.slice x.args.a x.args.n x.args.c):=by subst hR;exact hc 4 _ rfl
 have HD:=Lib.hid hd
 have HX:=Lib.hid hx
 clear hx hd hR hc
 by_cases h13:x.kind=1\/x.kind=3
 have hfit:acc.length+x.text.size<=140737488355328/\HH (acc++x.text.data.toList) (xs.drop (q+1))=some r:=by
  have e:=hF.out
  rw [HD.out] at e
  simp only [HH,if_pos h13] at e
  split at e
  exact ⟨‹_›,e⟩
  cases e
 have HI2:∀ o,Lib.IsBuilderF 186 5 w.heap.size w.heap.size (Lib.byteCells acc) (wr.alloc o):=fun o=>hI.alloc o
 rcases h13 with h13 | h13
 ·go_wp2_with (go_at_call 174;refine (oX w.heap.size w.heap.size _ x.text _ (HI2 _) (by rw [Lib.byteCells_length];exact hfit.1) (YX HW.out.size (by simp))).mono ?_)
  rintro e W1 ⟨rfl,h1,b1⟩
  go_wp2
  go_roundw
  case rel=>
   refine ⟨q+1,acc++x.text.data.toList,by omega,by go_num,?_,?_,Lib.hid hfit.2⟩
   exact (Below.al HW.out _).trans b1
   rw [Lib.byteCells_append,<- Lib.strCells_eq];exact Or.inr h1
  case measure=>simp [intOf];omega
 ·go_wp2_with (go_at_call 174;refine (oX w.heap.size w.heap.size _ x.text _ (HI2 _) (by rw [Lib.byteCells_length];exact hfit.1) (YX HW.out.size (by simp))).mono ?_)
  rintro e W1 ⟨rfl,h1,b1⟩
  go_wp2
  go_roundw
  case rel=>
   refine ⟨q+1,acc++x.text.data.toList,by omega,by go_num,?_,?_,Lib.hid hfit.2⟩
   exact (Below.al HW.out _).trans b1
   rw [Lib.byteCells_append,<- Lib.strCells_eq];exact Or.inr h1
  case measure=>simp [intOf];omega
 by_cases h2:x.kind=2
 ·have hn2:HH acc (xs.drop (q+1))=some r:=by
   have e:=hF.out
   rw [HD.out] at e
   simp only [HH,if_neg h13,if_pos h2] at e
   exact e
  go_wp2
  go_roundw
  case rel=>exact ⟨q+1,acc,by omega,by go_num,Below.al HW.out _,hI.alloc _,Lib.hid hn2⟩
  case measure=>simp [intOf];omega
 ·have hn2:r=none:=by
   have e:=hF.out
   rw [HD.out] at e
   simp only [HH,if_neg h13,if_neg h2] at e
   exact (D7 e).symm
  subst hn2
  go_wp2
  exact bodyPost_ret (v:=XF none) (by simp [results,Tryz.results117,go_sem, *];rfl) rfl ⟨rfl,Below.al HW.out _⟩
 ·have hz:r=some acc:=by
   have e:=hF.out
   rw [YI (by rw [<- HN.out];omega)] at e
   exact (D7 e).symm
  subst hz
  go_wp2_with (go_at_call 176;refine (Tryz.Builder_String_any_f w.heap.size w.heap.size acc _ hI HW.out.size).mono ?_)
  rintro e W1 ⟨rfl,_,b1⟩
  go_wp2
  exact bodyPost_ret (v:=XF (some acc)) (by simp [results,Tryz.results117,go_sem, *];rfl) rfl ⟨rfl,HW.out.trans b1⟩}
def GR (acc:Q3 Q4):Q3 Node->Q2 (Q2 (Q3 Q4)) | []=>some (some acc) | x::xs=>if x.kind=1\/x.kind=3 then (if acc.length+x.text.size<=140737488355328 then GR (acc++x.text.data.toList) xs else none) else if x.kind=2 then GR acc xs else some none
theorem oY:∀ (xs:Q3 NodeW) (l:Q3 Node) (acc:Q3 Q4),xs.length=l.length->(∀ (i:Nat) (x:NodeW) (y:Node),xs[i]? = some x->l[i]? = some y->x.kind=y.kind/\x.text=y.text)->HH acc xs=GR acc l
 | [],[],acc,_,_=>rfl
 | x::xs,y::l,acc,hl,h=>by
   obtain ⟨h1,h2⟩:=h 0 x y rfl rfl
   have ih:=fun acc=>oY xs l acc (by simpa using hl) (fun i a b ha hb=>h (i+1) a b ha hb)
   simp only [HH,GR,h1,h2,ih]
def FU:Value->SlW | .slice A n c=>⟨A,n,c⟩ | _=>⟨none,0,0⟩
theorem oZ {x:Ctx} {els:Q3 (Q3 PV)} {v:Value} (h:Rep x (.sl els) v):v = .slice (FU v).a (FU v).n (FU v).c:=by
 cases h
 rfl
theorem ZoZ {x:Ctx} (hflt:∀ b o,x.F b o->b<x.W.heap.size) {L:Q3 Node} {v:Value} (h:Rep x (.sl (L.map Node.cs)) v):∃ A n c xs,v = .slice A n c/\SlR x.W A n c xs/\∀ acc,HH acc xs=GR acc L:=by{
generalize hels:(L.map Node.cs)=els at h
cases h with
| sl _ A n c k b off f hn hc hm hk hA hcell hh=>
  subst hels
  have hx:∀ (i:Nat) (y:NodeW),(L.mapIdx fun i nd=>(⟨nd.kind,nd.tag,nd.text,FU (f i 3),FU (f i 4)⟩:NodeW))[i]? = some y->∃ nd,L[i]? = some nd/\y=⟨nd.kind,nd.tag,nd.text,FU (f i 3),FU (f i 4)⟩:=fun i y hi=>by
   rw [List.getElem?_mapIdx] at hi
   cases hL:L[i]? with
   | none=>rw [hL] at hi;cases hi
   | some nd=>rw [hL] at hi;injection hi with hi;exact ⟨nd,rfl,hi.symm⟩
  refine ⟨A,n,c,L.mapIdx fun i nd=>(⟨nd.kind,nd.tag,nd.text,FU (f i 3),FU (f i 4)⟩:NodeW),rfl,⟨by simpa using hn,hc,hm,fun h0=>?_⟩,fun acc=>oY _ _ _ (by simp) fun i y nd hi hd=>?_⟩
  have hL:0<L.length:=by rw [hn,Yv] at h0;exact h0
  have hk5:k=5:=by
   obtain ⟨s,hs⟩:∃ s,L[0]? = some s:=⟨_,Yc hL⟩
   exact (hk (Node.cs s) (Yy.2 ⟨s,Yj hs,rfl⟩)).symm
  subst hk5
  have el:∀ i nd,L[i]? = some nd->(L.map Node.cs)[i]? = some (Node.cs nd):=fun i nd hi=>by rw [Yw,hi];rfl
  obtain ⟨s0,hs0⟩:∃ s,L[0]? = some s:=⟨_,Yc hL⟩
  refine ⟨b,off,fun i=>[f i 0,f i 1,f i 2,f i 3,f i 4],hA h0,trivial,hflt _ _ (hcell 0 0 _ _ (el 0 s0 hs0) rfl).2.1,fun i y hi=>?_⟩
  obtain ⟨nd,hd,rfl⟩:=hx i y hi
  have e:=el i nd hd
  refine ⟨?_,fun j u hj=>?_⟩
  have r0:=hh i 0 _ _ e rfl
  have r1:=hh i 1 _ _ e rfl
  have r2:=hh i 2 _ _ e rfl
  have r3:=oZ (hh i 3 _ _ e rfl)
  have r4:=oZ (hh i 4 _ _ e rfl)
  have q0:f i 0 = .int .i64 nd.kind:=by generalize f i 0=u at r0;cases r0;rfl
  have q1:f i 1 = .int .i64 nd.tag:=by generalize f i 1=u at r1;cases r1;rfl
  have q2:f i 2 = .string nd.text:=by generalize f i 2=u at r2;cases r2;rfl
  show [f i 0,f i 1,f i 2,f i 3,f i 4] = [.int .i64 nd.kind,.int .i64 nd.tag,.string nd.text,.slice (FU (f i 3)).a (FU (f i 3)).n (FU (f i 3)).c,.slice (FU (f i 4)).a (FU (f i 4)).n (FU (f i 4)).c]
  rw [q0,q1,q2,<- r3,<- r4]
  match j,hj with
  | 0,hj=>injection hj with hj;subst hj;exact (hcell i 0 _ _ e rfl).2.2
  | 1,hj=>injection hj with hj;subst hj;exact (hcell i 1 _ _ e rfl).2.2
  | 2,hj=>injection hj with hj;subst hj;exact (hcell i 2 _ _ e rfl).2.2
  | 3,hj=>injection hj with hj;subst hj;exact (hcell i 3 _ _ e rfl).2.2
  | 4,hj=>injection hj with hj;subst hj;exact (hcell i 4 _ _ e rfl).2.2
  | j+5,hj=>simp at hj
  obtain ⟨nd',h1,rfl⟩:=hx i y hi
  rw [hd] at h1
  cases h1
  exact ⟨rfl,rfl⟩}
def NM (l:Q3 Node):Q2 (Q1×Bool):=match GR [] l with | some (some t)=>some (⟨t.toArray⟩,true) | some none=>some (⟨#[]⟩,false) | none=>none
theorem ZAt {x:Ctx} (a:Q1) (c:Bool):Rep x (.tup [.str a,.bool c]) (.tuple #[.string a,.bool c]):=.tup _ _ rfl fun i p v hp hv=>by
 match i,hp,hv with
 | 0,hp,hv=>injection hp with hp;injection hv with hv;subst hp hv;exact .str _
 | 1,hp,hv=>injection hp with hp;injection hv with hv;subst hp hv;exact .bool _
 | i+2,hp,_=>simp at hp
theorem args1 {x:Ctx} {p:PV} {vs:Array Value} (h:Pre x [p] none vs):∃ v,vs = #[v]/\Rep x p v:=by
 obtain ⟨v,hv⟩:∃ v,vs = #[v]:=Array.size_eq_one_iff.1 h.size.symm
 exact ⟨v,hv,h.rep 0 _ _ rfl (by rw [hv];rfl)⟩
theorem Zo0 (l:Q3 Node) (r:Q1×Bool) (h:NM l=some r):Zg Q7 117 [.sl (List.map Node.cs l)] (.tup [.str r.1,.bool r.2]):=by{
obtain ⟨o,ho,hv⟩:∃ o,GR [] l=some o/\XF o = .tuple #[.string r.1,.bool r.2]:=by
 unfold NM at h
 split at h
 cases h;exact ⟨_,‹_›,rfl⟩
 cases h;exact ⟨_,‹_›,rfl⟩
 cases h
exact bN (by kernel_rfl) rfl (fun x=>ZAt _ _) fun x vs hp _=>by
 obtain ⟨v,rfl,h1⟩:=args1 hp
 obtain ⟨A,n,c,xs,rfl,hS,he⟩:=ZoZ hp.flt h1
 rw [<- hv]
 exact Zum A n c xs o ((he []).trans ho) x.W hS}
end
end Go.Proofs.YtmgfammllddkhaaGreatDoor
