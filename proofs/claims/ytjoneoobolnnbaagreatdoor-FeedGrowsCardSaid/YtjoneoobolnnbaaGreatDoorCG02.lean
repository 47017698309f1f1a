/- Functions of the program as Lean functions. Written by fxgen.py. -/
import Derived.Test.YtjoneoobolnnbaaGreatDoorCB34
import Derived.Test.YtjoneoobolnnbaaGreatDoorCG01
set_option linter.unusedVariables false
set_option maxHeartbeats 4000000
set_option maxRecDepth 100000
namespace Go.Proofs.YtjoneoobolnnbaaGreatDoor
open VL
def Ze6 (p0:List Int) (p1:List Int) (p2:List Int) (p3:Int) (p4:Int):Option Bool:=
 (Zau p0 p1).bind fun r1=>
 (ZaE r1 (⟨#[97,110,110]⟩:ByteArray)).bind fun r2=>
 if (decide ((r2.length:Int)=0)) then
  (w42_awake).bind fun r4=>
  (some r4:Option Bool)
 else
 (ZbW p3 (r2.length:Int)).bind fun r5=>
 (atI r2 r5).bind fun e6=>
 (Zce r1 e6).bind fun r7=>
 if (!r7.2) then
  letk (fun (x15:Bool)=>
   (some x15:Option Bool)) fun k2=>
  (w42_awake).bind fun r16=>
  if r16 then
   (ZaT r1 (⟨#[97,110,110]⟩:ByteArray) e6).bind fun r17=>
   k2 (!r17)
  else
  k2 false
 else
 (ZbW p4 2).bind fun r18=>
 ZE Zaj (fun f4 ((x45,x46):Int×(List Change))=>
  if (decide (0<x45)) then
   (ZgQ p2).bind fun r56=>
   (Zij r56).bind fun r57=>
   (ZcF 136 x46 [(⟨1,(⟨#[99,121]⟩:ByteArray),(⟨#[]⟩:ByteArray),e6,(⟨0,(⟨#[]⟩:ByteArray)⟩:Title),r57.1,0,[]⟩:Change)]).bind fun l58=>
   f4 ((w64 (x45 - 1)),l58)
  else
  (Zao r1 x46).bind fun r59=>
  if (!decide (r59.2=0)) then
   letk (fun (x64:Bool)=>
    (some x64:Option Bool)) fun k6=>
   (w42_awake).bind fun r65=>
   if r65 then
    k6 (decide (r59.2=8))
   else
   k6 false
  else
  (ZaN r1 (⟨#[97,110,110]⟩:ByteArray) 0).bind fun r66=>
  (ZaN r59.1 (⟨#[97,110,110]⟩:ByteArray) 0).bind fun r67=>
  (ZaT r1 (⟨#[97,110,110]⟩:ByteArray) e6).bind fun r68=>
  letk (fun (x69:Int)=>
   letk (fun (x76:Bool)=>
    (some x76:Option Bool)) fun k8=>
   (w42_awake).bind fun r77=>
   if r77 then
    if (decide ((r67.length:Int)=(w64 ((r66.length:Int)+x69)))) then
     (ZjA r67 0 (r66.length:Int)).bind fun l78=>
     (Za4 l78 r66).bind fun r79=>
     if r79 then
      (ZaN r59.1 (⟨#[97,110,110]⟩:ByteArray) (r66.length:Int)).bind fun r80=>
      (ZjA r67 (r66.length:Int) (r67.length:Int)).bind fun l81=>
      (Za4 r80 l81).bind fun r82=>
      k8 r82
     else
     k8 false
    else
    k8 false
   else
   k8 false) fun k7=>
  if r68 then
   k7 (x46.length:Int)
  else
  k7 0) ((w64 (1+r18)),([]:List Change))
theorem Zmz (p0:List Int) (p1:List Int) (p2:List Int) (p3:Int) (p4:Int) (r:Bool) (h:Ze6 p0 p1 p2 p3 p4=some r):Zd Tryz.prog 6 [.sl (List.map csI p0),.sl (List.map csI p1),.sl (List.map csI p2),.int .i64 p3,.int .i64 p4] (.bool r):=by
 refine cF (fun r=>.bool r) h mix Tryz.func6 fun r h=>?_
 unfold Ze6 at h
 refine Zh ?_
 refine rg ?_
 refine rg ?_
 refine aC h (ZdK _ _) fun r1 h=>?_
 refine rg ?_
 refine aN h (Zcr _ _) fun r2 h=>?_
 refine rg ?_
 refine lM Title.cs r2 ?_
 refine cS h rfl (fun h=>?_) fun h=>?_
 ·refine rg ?_
  refine aC h Zcj fun r4 h=>?_
  cases h
  exact rQ
 refine rg ?_
 refine lM Title.cs r2 ?_
 refine aC h (ZbG _ _) fun r5 h=>?_
 obtain ⟨e6,h6,h⟩:=bnd h
 refine ZD rfl h6 rfl rfl rfl (Zh ?_)
 refine ZaB rfl h6 rfl rfl rfl (Zh ?_)
 refine rg ?_
 refine aC h (Zef _ _) fun r7 h=>?_
 refine rg ?_
 refine cS h rfl (fun h=>?_) fun h=>?_
 ·refine jL h (fun x15=>mkS [(10,.bool x15)] [] 2) (fun k2 h=>?_) fun x15 h=>?_
  ·refine rg ?_
   refine aC h Zcj fun r16 h=>?_
   refine kS 48 h rfl (fun h=>?_) fun h=>?_
   ·refine aC h (ZbQ _ _ _) fun r17 h=>?_
    exact jn (!r17) h (sR [])
   iterate 4 refine Zi rfl (Zh ?_)
   exact jn false h (sR [])
  cases h
  exact rQ
 refine rg ?_
 refine rg ?_
 refine aC h (ZbG _ _) fun r18 h=>?_
 refine bl ?_
 refine Zn h fun f4 mf4 hf4 h=>?_
 refine Zk (α:=Nat×(Int×(List Change))) (fun a _=>mkS [(2,.sl (List.map csI p2)),(11,.ptr 11 (1,11) 0),(13,.ptr 13 (1,13) 0),(16,.row 16 (1,16)),(17,.int .i64 a.2.1)] [(11,some ((1,11),.box (State.cs r1))),(13,some ((1,13),.box (Title.cs e6))),(16,some ((1,16),.row 66 10 false (List.map Change.cs a.2.2)))] 2) (fun a=>ZE a.1 f4 a.2=some r) (fun a=>a.1) (mf4,(w64 (1+r18)),([]:List Change)) 2 h (Za9 [((1,11),(2,3)),((1,13),(5,7))] 16 66 10 rfl ⟨rfl,rfl,rfl,rfl,rfl,trivial⟩ ⟨⟨rfl,rfl⟩,⟨rfl,rfl⟩,⟨rfl,rfl⟩,trivial⟩ rfl) (fun a _ h=>?_)
 obtain ⟨mf4,x45,x46⟩:=a
 obtain ⟨mf4,rfl,h⟩:=Zo hf4 h
 dsimp only at h ⊢
 refine Zh ?_
 refine rg ?_
 refine cS h rfl (fun h=>?_) fun h=>?_
 ·refine bl ?_
  refine rg ?_
  refine aN h (ZhC _) fun r56 h=>?_
  refine aO h (Zkp _) fun r57 h=>?_
  refine ZZ (M:=([(⟨1,(⟨#[99,121]⟩:ByteArray),(⟨#[]⟩:ByteArray),e6,(⟨0,(⟨#[]⟩:ByteArray)⟩:Title),r57.1,0,[]⟩:Change)]:List Change)) (f:=Change.cs) rfl rfl rfl rfl (Nat.le_of_ble_eq_true rfl) rfl (Zh ?_)
  refine pR Change.cs h fun l58 h=>?_
  refine rg ?_
  exact rn (mf4,(w64 (x45 - 1)),l58) h (sR [(11,1,11),(13,1,13),(16,3,7)])
 refine rg ?_
 refine aC h (ZbT _ _) fun r59 h=>?_
 refine rg ?_
 refine cS h rfl (fun h=>?_) fun h=>?_
 ·refine jL h (fun x64=>mkS [(10,.bool x64)] [] 2) (fun k6 h=>?_) fun x64 h=>?_
  ·refine rg ?_
   refine aC h Zcj fun r65 h=>?_
   refine kS 78 h rfl (fun h=>?_) fun h=>?_
   ·exact jn (decide (r59.2=8)) h (sR [])
   iterate 2 refine Zi rfl (Zh ?_)
   exact jn false h (sR [])
  cases h
  exact rQ
 refine rg ?_
 refine aC h (ZcO _ _ _) fun r66 h=>?_
 refine aC h (ZcO _ _ _) fun r67 h=>?_
 refine rg ?_
 refine rg ?_
 refine aC h (ZbQ _ _ _) fun r68 h=>?_
 refine jL h (fun x69=>mkS [(18,.ptr 18 (1,18) 0),(20,.sl (List.map Item.cs r66)),(21,.sl (List.map Item.cs r67)),(22,.int .i64 x69)] [(18,some ((1,18),.box (State.cs r59.1)))] 2) (fun k7 h=>?_) fun x69 h=>?_
 ·refine cS h rfl (fun h=>?_) fun h=>?_
  ·refine rg ?_
   refine lM Change.cs x46 ?_
   exact jn (x46.length:Int) h (sR [(18,3,6)])
  exact jn 0 h (sR [(18,3,6)])
 refine jL h (fun x76=>mkS [(10,.bool x76)] [] 2) (fun k8 h=>?_) fun x76 h=>?_
 ·refine rg ?_
  refine aC h Zcj fun r77 h=>?_
  refine kS 92 h rfl (fun h=>?_) fun h=>?_
  ·refine lM Item.cs r67 ?_
   refine lM Item.cs r66 ?_
   refine kS 101 h rfl (fun h=>?_) fun h=>?_
   ·refine lM Item.cs r66 ?_
    refine sM Item.cs h fun l78 h=>?_
    refine aC h (Zc3 _ _) fun r79 h=>?_
    refine kS 109 h rfl (fun h=>?_) fun h=>?_
    ·refine lM Item.cs r66 ?_
     refine aC h (ZcO _ _ _) fun r80 h=>?_
     refine lM Item.cs r66 ?_
     refine sM Item.cs h fun l81 h=>?_
     refine aC h (Zc3 _ _) fun r82 h=>?_
     exact jn r82 h (sR [])
    iterate 9 refine Zi rfl (Zh ?_)
    exact jn false h (sR [])
   iterate 15 refine Zi rfl (Zh ?_)
   exact jn false h (sR [])
  iterate 22 refine Zi rfl (Zh ?_)
  exact jn false h (sR [])
 cases h
 exact rQ
def ZrO (n0:Nat) (tx:ByteArray) (clock z:Int):Nat→List Revision
 | 0=>[]
 | n+1=>ZrO n0 tx clock z n ++ [⟨((n0+n:Nat):Int)+1,cyU,⟨#[]⟩,tx,clock,z⟩]
theorem Zow (n0:Nat) (tx:ByteArray) (clock z:Int):∀ n,(ZrO n0 tx clock z n).length=n
 | 0=>rfl
 | n+1=>by rw [ZrO,List.length_append,Zow n0 tx clock z n];rfl
structure GrowR (s:State) (t:Title) (tx:ByteArray) (n:Nat) (y:State):Prop where
 watches:y.watches=s.watches
 clock:y.clock=s.clock
 titles:y.pages.map (·.title)=s.pages.map (·.title)
 other:∀ t',t'≠t→ZC y.pages t'=ZC s.pages t'
 grown:ZC y.pages t=ZC s.pages t++ZrO (ZC s.pages t).length tx s.clock (s.seq+1) n
theorem ZyE {t0:ByteArray} {s:State} {m:Int} (hs:Zhr s m) (hm:m≤1000) (h:VS t0 s.seq s) (hp:∃ p n,Zai t0=some (p,n,0)) (t:Title) (ht:t ∈ ZaJ) (hin:t ∈ s.pages.map (·.title)) (tx:ByteArray) (htx:tx.size≤300) (k:Nat) (hk1:1≤k) (hk2:k≤2) :
  Tot (Zao s (List.replicate k (Zm8 t tx))) fun r=>(r.2=0→Zhr r.1 (m+1)∧VS t0 r.1.seq r.1∧GrowR s t tx k r.1)∧(r.2≠0→r.2=8):=by
 have hseq:=hs.1.1.seq
 have hmem:∀ c ∈ List.replicate k (Zm8 t tx),c=Zm8 t tx:=fun c hc=>List.eq_of_mem_replicate hc
 have htame:∀ c ∈ List.replicate k (Zm8 t tx),c.tame∧c.known:=fun c hc=>by
  rw [hmem c hc]
  exact ZlZ t ht tx htx
 have hlen:(List.replicate k (Zm8 t tx)).length=k:=List.length_replicate ..
 refine (ZeY (ZeY (madeW.step s m _ hs hm htame (by omega) (by omega)) (ZbS (ZrA h (by omega) hp (fun c hc=>(htame c hc).1) (by omega)))) (ZbS (Zqz (I:=GrowR s t tx) (E:=fun e=>e=8) h (by omega) hp (fun c hc=>(htame c hc).1) (by omega) (by omega) ⟨rfl,rfl,rfl,fun _ _=>rfl,by simp [ZrO]⟩ (fun c hc=>?_) (.inr fun c hc=>?_) rfl fun n c st hc hV hsq cv hI=>?_))).mono fun r hr=>⟨fun h0=>⟨hr.1.1 h0,(hr.1.2 h0).1,?_⟩,hr.2.2⟩
 ·rw [hmem c hc,Zkr t ht tx htx]
  exact Zq fun h=>absurd rfl h
 ·rw [hmem c hc]
  exact Zqr t ht tx
 ·have hc':=hmem c (List.mem_of_getElem? hc)
  subst hc'
  have hpl:=hV.plen
  refine Zj0 (Zl0 (by omega) rfl) fun r hr=>⟨fun h0 ls=>?_,hr.2⟩
  obtain ⟨q1,q2,q3,q4,q5⟩:=hr.1 h0
  have hold:=q5 (by rw [hI.titles];exact hin)
  refine ⟨q1.trans hI.watches,q2.trans hI.clock,hold.trans hI.titles,fun t' ht'=>?_,?_⟩
  ·have:=q3 t'
   rw [if_neg (show ¬ t'=(Zm8 t tx).title from ht')] at this
   exact this.trans (hI.other t' ht')
  ·have:=q3 t
   rw [if_pos (show t=(Zm8 t tx).title from rfl)] at this
   refine this.trans ?_
   rw [hI.grown,List.append_assoc,ZrO]
   congr 2
   rw [List.length_append,Zow,hI.clock]
   rfl
 ·obtain ⟨st,hst,e⟩:=hr.2.1 h0
  rw [hlen] at hst
  rw [e]
  exact ⟨hst.watches,hst.clock,hst.titles,hst.other,hst.grown⟩
theorem Zox (n0:Nat) (tx:ByteArray) (clock z:Int):∀ (n:Nat) (r:Revision),r ∈ ZrO n0 tx clock z n→r.seq=z∧r.number≤((n0+n:Nat):Int)
 | 0,r,h=>by cases h
 | n+1,r,h=>by
   rw [ZrO] at h
   rcases List.mem_append.1 h with h | h
   ·obtain ⟨h1,h2⟩:=Zox n0 tx clock z n r h
    exact ⟨h1,by omega⟩
   ·rw [List.mem_singleton] at h
    subst h
    refine ⟨rfl,?_⟩
    dsimp only
    omega
theorem ZrP (t:Title) (n0:Nat) (tx:ByteArray) (clock z:Int):∀ n,Srt nLt ((ZrO n0 tx clock z n).map (Zd4 t))
 | 0=>.nil
 | n+1=>by
   rw [ZrO,List.map_append]
   refine List.pairwise_append.2 ⟨ZrP t n0 tx clock z n,List.pairwise_singleton _ _,fun a ha b hb=>?_⟩
   obtain ⟨r,hr,rfl⟩:=List.mem_map.1 ha
   obtain ⟨r',hr',rfl⟩:=List.mem_map.1 hb
   rw [List.mem_singleton] at hr'
   subst hr'
   obtain ⟨h1,h2⟩:=Zox n0 tx clock z n r hr
   refine decide_eq_false (ZbI.2 (.inr ⟨h1,.inr ⟨rfl,?_⟩⟩))
   show r.number≤((n0+n:Nat):Int)+1
   omega
theorem ZnD {α β:Type} {f g:α→List β}:∀ {l:List α} (_:∀ a ∈ l,f a=g a),l.flatMap f=l.flatMap g
 | [],_=>rfl
 | a::l,h=>by rw [List.flatMap_cons,List.flatMap_cons,h a (List.mem_cons_self ..),ZnD fun b hb=>h b (List.mem_cons_of_mem _ hb)]
theorem ZqT {t:Title} {W:List Title} (h:t ∈ W) (hn:W.Nodup):∃ A B,W=A++t::B∧t ∉ A∧t ∉ B:=by
 obtain ⟨A,B,rfl⟩:=List.append_of_mem h
 refine ⟨A,B,rfl,fun ha=>?_,fun hb=>?_⟩
 ·have:=(List.nodup_append.1 hn).2.2 t ha t (List.mem_cons_self ..)
  exact this rfl
 ·have:=(List.nodup_cons.1 (List.nodup_append.1 hn).2.1).1
  exact this hb
theorem ZtW (l m text:List Int) (at_ n:Int) (hl:l.length≤9223372036854775807) (hm:m.length≤9223372036854775807) (hx:text.length≤9223372036854775807):Ze6 l m text at_ n=some true:=by
 refine ZV ?_
 unfold Ze6
 refine Zf (ZhA l m hl hm) fun s hs=>?_
 obtain ⟨t0,ht0,hv⟩:=hs.1.1.ex
 have hu:(⟨#[97,110,110]⟩:ByteArray) ∈ usersG:=.tail _ (.head _)
 generalize (⟨#[97,110,110]⟩:ByteArray)=u at hu ⊢
 obtain ⟨P0,hP,G,hR,hRy⟩:=Zr7 (u:=u) hv ht0 hu
 obtain ⟨pp,hpp⟩:=Zgu t0 ht0
 have hpl:=hs.1.plen
 have hwl:=hv.wlen
 have hW8:=Zb6 hv.wsort hs.2 u
 have hWn:=Zbg (Zb8 hv.wsort u)
 have awk:∀ {f:Bool→Option Bool},Tot (f true) (fun r=>r=true)→Tot (w42_awake.bind f) fun r=>r=true:=fun h=>Za Zgm h
 refine Za (Zdx s u (by omega)) ?_
 refine Zc (fun _=>awk (Zb rfl)) fun hne=>?_
 refine Zf (Zfw at_ _ (by omega) (by omega)) fun w hw=>?_
 refine Zl hw.1 hw.2 fun t htW _=>?_
 have ht:t ∈ ZaJ:=by
  obtain ⟨wt,hwt,rfl⟩:=List.mem_map.1 htW
  exact hs.2 wt (List.mem_filter.1 hwt).1
 refine Za (ZjH hv.sorted t (by omega)) ?_
 rw [Zis,Zc2]
 by_cases hin:t ∈ s.pages.map (·.title)
 rotate_left
 ·refine ZH (by rw [decide_eq_false hin];rfl) ?_
  refine ZJ ?_
  refine awk (ZH rfl ?_)
  refine Za (Zdv hR (by omega) t) (Zb ?_)
  unfold rdB
  rw [Zc2,decide_eq_false hin]
  rfl
 refine Zs (by rw [decide_eq_true hin];rfl) ?_
 refine Zf (Zfw n 2 (by omega) (by omega)) fun k0 hk0=>?_
 obtain ⟨x,ex,hxo⟩:=ZpJ text hx
 obtain ⟨tx,etx,htx⟩:=ZrS x hxo
 rw [Zg (n:=1+k0) (by omega) (by omega)]
 refine Zj (fun a:Int×List Change=>∃ j:Nat,a.1=1+k0 - (j:Int)∧(j:Int)≤1+k0∧a.2=List.replicate j (Zm8 t tx.1)) (fun a=>a.1.toNat) ⟨0,by dsimp only;omega,by omega,rfl⟩ (by dsimp only;omega) ?_
 rintro ⟨c,L⟩ rec ⟨j,e1,hj,e2⟩ ih
 dsimp only at e1 e2 ⊢
 subst e1 e2
 refine Zc (fun hlt=>?_) fun hlt=>?_
 ·refine Za ex ?_
  refine Za etx ?_
  refine ZK 4 (by simp;omega) (by decide) (by decide) ?_
  rw [Zg (by omega) (by omega)]
  refine ih _ ⟨j+1,by dsimp only;omega,by omega,?_⟩ (by dsimp only;omega)
  dsimp only
  rw [List.replicate_succ']
  rfl
 have hjk:(j:Int)=1+k0:=by omega
 refine Zf (ZyE hs (by omega) hv ⟨pp,0,hpp⟩ t ht hin tx.1 htx.1 j (by omega) (by omega)) fun r hr=>?_
 obtain ⟨y,e⟩:=r
 dsimp only at hr ⊢
 refine ZQ (fun hne=>?_) fun h0=>?_
 ·refine ZJ ?_
  refine awk (ZH rfl (Zb ?_))
  exact decide_eq_true (hr.2 hne)
 obtain ⟨hy,hvy,hH⟩:=hr.1 h0
 have hpol:ZdR y.pages=ZdR s.pages:=by
  have e:∀ l:List Stored,ZdR l=(l.map (·.title)).any (fun t=>decide (t=policyT)):=fun l=>by
   unfold ZdR
   rw [List.any_map]
   rfl
  rw [e,e,hH.titles]
 have hRy':=hRy y _ hvy hpol
 have hmay:∀ t',rdB y.pages (Zb4 P0 s.pages) G t'=rdB s.pages (Zb4 P0 s.pages) G t':=fun t'=>by
  unfold rdB
  rw [Zc2,Zc2,hH.titles]
 obtain ⟨F,hF1,hF2,hF3,hF⟩:=ZlT hs hR.rd
 obtain ⟨Fy,hFy1,hFy2,hFy3,hFy⟩:=ZlT hy hRy'.rd
 have hWy:ZB y.watches u=ZB s.watches u:=by rw [hH.watches]
 have eF:Fy=F++(if rdB s.pages (Zb4 P0 s.pages) G t=true then (ZrO (ZC s.pages t).length tx.1 s.clock (s.seq+1) j).map (Zd4 t) else []):=by
  refine ZnZ (fun a ha b hb=>Zls hvy a (hFy1.mem_iff.1 ha) b (hFy1.mem_iff.1 hb)) ?_ hFy2 ?_
  ·refine hFy1.trans ?_
   refine List.Perm.trans ?_ (hF1.symm.append_right _)
   rw [hWy]
   obtain ⟨A,B,hAB,hA,hB⟩:=ZqT htW hWn
   have same:∀ T:List Title,t ∉ T→ents y.pages (rdB y.pages (Zb4 P0 s.pages) G) T=ents s.pages (rdB s.pages (Zb4 P0 s.pages) G) T:=fun T hT=>by
    unfold ents
    refine ZnD fun t' ht'=>?_
    unfold ZdQ
    rw [hmay t',hH.other t' fun e=>hT (by rw [← e];exact ht')]
   have et:ZdQ y.pages (rdB y.pages (Zb4 P0 s.pages) G) t=ZdQ s.pages (rdB s.pages (Zb4 P0 s.pages) G) t++(if rdB s.pages (Zb4 P0 s.pages) G t=true then (ZrO (ZC s.pages t).length tx.1 s.clock (s.seq+1) j).map (Zd4 t) else []):=by
    unfold ZdQ
    rw [hmay t]
    split
    ·rw [hH.grown,List.map_append]
    ·rfl
   have eW:∀ (l:List Stored) (f:Title→Bool),ents l f (ZB s.watches u)=ents l f A++(ZdQ l f t++ents l f B):=fun l f=>by
    rw [hAB]
    unfold ents
    rw [List.flatMap_append,List.flatMap_cons]
   rw [eW,eW,same A hA,same B hB,et]
   rw [List.append_assoc,List.append_assoc,List.append_assoc]
   refine List.Perm.append_left _ (List.Perm.append_left _ ?_)
   exact List.perm_append_comm
  ·refine List.pairwise_append.2 ⟨hF2,?_,fun a ha b hb=>?_⟩
   ·split
    ·exact ZrP ..
    ·exact .nil
   ·split at hb
    ·obtain ⟨r,hr,rfl⟩:=List.mem_map.1 hb
     obtain ⟨q1,_⟩:=Zox _ _ _ _ _ _ hr
     obtain ⟨p,hp,i,r2,hi,rfl,_⟩:=Zlv hv (hF1.mem_iff.1 ha)
     have hs2:=((hv.pages p hp).hist.all r2 (List.mem_of_getElem? hi)).seq1
     refine decide_eq_false (ZbI.2 (.inl ?_))
     show r2.seq<r.seq
     omega
    ·cases hb
 have hN:((if rdB s.pages (Zb4 P0 s.pages) G t=true then (ZrO (ZC s.pages t).length tx.1 s.clock (s.seq+1) j).map (Zd4 t) else []).length:Int)=if rdB s.pages (Zb4 P0 s.pages) G t=true then (j:Int) else 0:=by
  split
  ·rw [List.length_map,Zow]
  ·rfl
 generalize hnew:(if rdB s.pages (Zb4 P0 s.pages) G t=true then (ZrO (ZC s.pages t).length tx.1 s.clock (s.seq+1) j).map (Zd4 t) else [])=N at *
 have c0:∀ n:Nat,(clip 0 n).toNat=0:=fun n=>by
  unfold clip
  split<;>(try split)<;>omega
 have eA:ZaN s u 0=some (F.map (·.item)):=by rw [hF 0,c0,List.drop_zero]
 have eB:ZaN y u 0=some (F.map (·.item)++N.map (·.item)):=by rw [hFy 0,c0,List.drop_zero,eF,List.map_append]
 have hFN:F.length+N.length≤480:=by
  have:=hFy3
  rw [eF,List.length_append] at this
  exact this
 have hlA:((F.map (·.item)).length:Int)=F.length:=by rw [List.length_map]
 have hlB:((F.map (·.item)++N.map (·.item)).length:Int)=(F.length:Int)+N.length:=by rw [List.length_append,List.length_map,List.length_map];omega
 refine Za eA ?_
 refine Za eB ?_
 refine Za (Zdv hR (by omega) t) ?_
 rw [hlA,hlB]
 refine Zx (fun k=>Tot (k (N.length:Int)) fun r=>r=true) ?_ fun k hk=>?_
 ·refine ZJ ?_
  refine awk (ZH rfl ?_)
  rw [Zg (by omega) (by omega)]
  refine Zc (fun _=>?_) fun h=>absurd rfl h
  refine Zfc (Int.le_refl _) (by omega) (by rw [hlB];omega) fun q hq _=>?_
  have hq2:q=F.map (·.item):=by
   rw [hq]
   simp only [Int.toNat_zero,List.drop_zero,Nat.sub_zero,Int.toNat_natCast]
   rw [List.take_append_of_le_length (by rw [List.length_map];exact Nat.le_refl _),List.take_of_length_le (by rw [List.length_map];exact Nat.le_refl _)]
  rw [hq2]
  refine Za (Zgl _ (by rw [List.length_map];omega)) ?_
  refine ZH rfl ?_
  have eC:ZaN y u (F.length:Int)=some (N.map (·.item)):=by
   rw [hFy,eF,List.map_append,List.length_append]
   have:(clip (F.length:Int) (F.length+N.length)).toNat=(F.map (·.item)).length:=by
    unfold clip
    rw [List.length_map]
    split<;>(try split)<;>omega
   rw [this,List.drop_left]
  refine Za eC ?_
  refine Zfc (by omega) (by omega) (by rw [hlB];exact Int.le_refl _) fun q hq _=>?_
  have hq3:q=N.map (·.item):=by
   rw [hq,Int.toNat_natCast]
   have e1:List.drop F.length (F.map (·.item)++N.map (·.item))=N.map (·.item):=by
    have:F.length=(F.map (·.item)).length:=by rw [List.length_map]
    rw [this,List.drop_left]
   rw [e1]
   apply List.take_of_length_le
   rw [List.length_map]
   omega
  rw [hq3]
  exact Za (Zgl _ (by rw [List.length_map];omega)) (Zb rfl)
 ·rw [hN] at hk
  refine Zaw (fun h=>?_) fun h=>?_
  ·rw [if_pos h] at hk
   rw [List.length_replicate]
   exact hk
  ·rw [if_neg (by rw [h];simp)] at hk
   exact hk
end Go.Proofs.YtjoneoobolnnbaaGreatDoor
namespace Go.Proofs.YtjoneoobolnnbaaGreatDoor
open VL Go.RowKit
theorem Zfm {α:Type} [Enc α] {w:World} {A:Option Addr} {n c:Nat} {xs:List α} (h:SlR w A n c xs):xs.length≤9223372036854775807:=by
 obtain ⟨h1,h2,h3,h4⟩:=h
 omega
theorem Zqp {x:Ctx} (i:Nat) (p:PV) (v:Value) (hp:([]:List PV)[i]? = some p) (hv:([]:List Value)[i]? = some v):Rep x p v:=by simp at hp
theorem Zf4 {x:Ctx} {p:PV} {v:Value} {ps:List PV} {vs:List Value} (h:Rep x p v) (r:∀ (i:Nat) (p:PV) (v:Value),ps[i]? = some p→vs[i]? = some v→Rep x p v) (i:Nat) (q:PV) (w:Value) (hp:(p::ps)[i]? = some q) (hv:(v::vs)[i]? = some w):Rep x q w:=by
 cases i with
 | zero=>injection hp with hp;injection hv with hv;subst hp hv;exact h
 | succ i=>exact r i q w (by simpa using hp) (by simpa using hv)
theorem Zqq {x:Ctx} {ps:List PV} {vs:List Value} (r:∀ (i:Nat) (p:PV) (v:Value),ps[i]? = some p→vs[i]? = some v→Rep x p v) (i:Nat) (p:PV) (v:Value) (hp:ps[i]? = some p) (hv:vs.toArray[i]? = some v):Rep x p v:=r i p v hp (by simpa using hv)
theorem Zn1 {A0:Option Addr} {n0 c0:Nat} {l0:List Int} {A1:Option Addr} {n1 c1:Nat} {l1:List Int} {A2:Option Addr} {n2 c2:Nat} {l2:List Int} (i3:Int) (i4:Int) (W:World) (h0:SlR W A0 n0 c0 l0) (h1:SlR W A1 n1 c1 l1) (h2:SlR W A2 n2 c2 l2) (hI:∀ W',Below W.heap.size W W'→WInv.I Tryz.prog W') :
  Calls Tryz.prog 6 #[.slice A0 n0 c0,.slice A1 n1 c1,.slice A2 n2 c2,.int .i64 i3,.int .i64 i4] W fun e w'=>e = .returned (.bool true)∧Below W.heap.size W w':=
 Zgv (Zmz l0 l1 l2 i3 i4 true (ZtW l0 l1 l2 i3 i4 (Zfm h0) (Zfm h1) (Zfm h2))) rfl (fun i p v hp hv=>Zqq (vs:=[.slice A0 n0 c0,.slice A1 n1 c1,.slice A2 n2 c2,.int .i64 i3,.int .i64 i4]) (Zf4 (ZeG h0) (Zf4 (ZeG h1) (Zf4 (ZeG h2) (Zf4 (.int _ _) (Zf4 (.int _ _) Zqp))))) i p v hp hv) hI
end Go.Proofs.YtjoneoobolnnbaaGreatDoor
