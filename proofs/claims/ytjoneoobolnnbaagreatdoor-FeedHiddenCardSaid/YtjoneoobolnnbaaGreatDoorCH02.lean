/- Functions of the program as Lean functions. Written by fxgen.py. -/
import Derived.Test.YtjoneoobolnnbaaGreatDoorCB34
import Derived.Test.YtjoneoobolnnbaaGreatDoorCH01
set_option linter.unusedVariables false
set_option maxHeartbeats 4000000
set_option maxRecDepth 100000
namespace Go.Proofs.YtjoneoobolnnbaaGreatDoor
open VL
def Zda (p0:List ByteArray) (p1:List ByteArray):Option Bool:=
 if (!decide ((p0.length:Int)=(p1.length:Int))) then
  (some false:Option Bool)
 else
 ZE 9223372036854775808 (fun f2 (x18:Int)=>
  if (decide (x18<(p0.length:Int))) then
   (atI p0 x18).bind fun e25=>
   (atI p1 x18).bind fun e26=>
   if (!decide (e25=e26)) then
    (some false:Option Bool)
   else
   f2 (w64 (x18+1))
  else
  (some true:Option Bool)) 0
theorem Zlp (p0:List ByteArray) (p1:List ByteArray) (r:Bool) (h:Zda p0 p1=some r):Zd Tryz.prog 62 [.sl (List.map csS p0),.sl (List.map csS p1)] (.bool r):=by
 refine cF (fun r=>.bool r) h mix Tryz.func62 fun r h=>?_
 unfold Zda at h
 refine Zh ?_
 refine rg ?_
 refine rg ?_
 refine lM csS p0 ?_
 refine lM csS p1 ?_
 refine cS h rfl (fun h=>?_) fun h=>?_
 ·refine rg ?_
  cases h
  exact rQ
 refine rg ?_
 refine bl ?_
 refine Zn h fun f2 mf2 hf2 h=>?_
 refine Zk (α:=Nat×Int) (fun a _=>mkS [(0,.sl (List.map csS p0)),(1,.sl (List.map csS p1)),(5,.int .i64 a.2)] [] 2) (fun a=>ZE a.1 f2 a.2=some r) (fun a=>a.1) (mf2,0) 2 h (sR []) (fun a _ h=>?_)
 obtain ⟨mf2,x18⟩:=a
 obtain ⟨mf2,rfl,h⟩:=Zo hf2 h
 dsimp only at h ⊢
 refine Zh ?_
 refine rg ?_
 refine lM csS p0 ?_
 refine cS h rfl (fun h=>?_) fun h=>?_
 ·refine bl ?_
  refine rg ?_
  refine aI csS h fun e25 h=>?_
  refine aI csS h fun e26 h=>?_
  refine cS h rfl (fun h=>?_) fun h=>?_
  ·refine rg ?_
   cases h
   exact rQ
  refine rg ?_
  exact rn (mf2,(w64 (x18+1))) h (sR [])
 refine rg ?_
 cases h
 exact rQ
def ZeM (p0:List Edit) (p1:List Edit):Option Bool:=
 if (!decide ((p0.length:Int)=(p1.length:Int))) then
  (some false:Option Bool)
 else
 ZE Zaj (fun f12 (x90:Int)=>
  if (decide (x90<(p0.length:Int))) then
   letk (fun (x129:Bool)=>
    if x129 then
     (some false:Option Bool)
    else
    f12 (w64 (x90+1))) fun k14=>
   (atI p0 x90).bind fun e130=>
   (atI p1 x90).bind fun e131=>
   if (!decide (e130.kind=e131.kind)) then
    k14 true
   else
   (atI p0 x90).bind fun e132=>
   (atI p1 x90).bind fun e133=>
   (Zda e132.lines e133.lines).bind fun r134=>
   k14 (!r134)
  else
  (some true:Option Bool)) 0
theorem Znm (p0:List Edit) (p1:List Edit) (r:Bool) (h:ZeM p0 p1=some r):Zd Tryz.prog 31 [.sl (List.map Edit.cs p0),.sl (List.map Edit.cs p1)] (.bool r):=by
 refine cF (fun r=>.bool r) h mix Tryz.func31 fun r h=>?_
 unfold ZeM at h
 refine Zh ?_
 refine rg ?_
 refine rg ?_
 refine lM Edit.cs p0 ?_
 refine lM Edit.cs p1 ?_
 refine cS h rfl (fun h=>?_) fun h=>?_
 ·refine rg ?_
  cases h
  exact rQ
 refine rg ?_
 refine bl ?_
 refine Zn h fun f12 mf12 hf12 h=>?_
 refine Zk (α:=Nat×Int) (fun a _=>mkS [(0,.sl (List.map Edit.cs p0)),(1,.sl (List.map Edit.cs p1)),(5,.int .i64 a.2)] [] 2) (fun a=>ZE a.1 f12 a.2=some r) (fun a=>a.1) (mf12,0) 2 h (sR []) (fun a _ h=>?_)
 obtain ⟨mf12,x90⟩:=a
 obtain ⟨mf12,rfl,h⟩:=Zo hf12 h
 dsimp only at h ⊢
 refine Zh ?_
 refine rg ?_
 refine lM Edit.cs p0 ?_
 refine cS h rfl (fun h=>?_) fun h=>?_
 ·refine bl ?_
  refine jL h (fun x129=>mkS [(0,.sl (List.map Edit.cs p0)),(1,.sl (List.map Edit.cs p1)),(5,.int .i64 x90),(41,.bool x129)] [] 2) (fun k14 h=>?_) fun x129 h=>?_
  ·refine rg ?_
   refine aI Edit.cs h fun e130 h=>?_
   refine aI Edit.cs h fun e131 h=>?_
   refine kS 28 h rfl (fun h=>?_) fun h=>?_
   ·iterate 12 refine Zi rfl (Zh ?_)
    exact jn true h (sR [])
   refine aI Edit.cs h fun e132 h=>?_
   refine aI Edit.cs h fun e133 h=>?_
   refine aC h (Zlp _ _) fun r134 h=>?_
   exact jn (!r134) h (sR [])
  refine cS h rfl (fun h=>?_) fun h=>?_
  ·refine rg ?_
   cases h
   exact rQ
  refine rg ?_
  exact rn (mf12,(w64 (x90+1))) h (sR [])
 refine rg ?_
 cases h
 exact rQ
def Zey (p0:List Int) (p1:List Int) (p2:Int) (p3:Int) (p4:Int):Option Bool:=
 (Zau p0 p1).bind fun r1=>
 (Zdz).bind fun r2=>
 (ZbW p2 4).bind fun r3=>
 (atI r2 r3).bind fun e4=>
 (ZdH).bind fun r5=>
 (ZbW p3 8).bind fun r6=>
 (atI r5 r6).bind fun e7=>
 (ZdH).bind fun r8=>
 (ZbW p4 8).bind fun r9=>
 (atI r8 r9).bind fun e10=>
 (Zao r1 [(⟨1,(⟨#[99,121]⟩:ByteArray),(⟨#[]⟩:ByteArray),e7,(⟨0,(⟨#[]⟩:ByteArray)⟩:Title),(⟨#[104,105,100,100,101,110]⟩:ByteArray),0,[]⟩:Change),(⟨7,(⟨#[122,101,100]⟩:ByteArray),(⟨#[]⟩:ByteArray),e10,(⟨0,(⟨#[]⟩:ByteArray)⟩:Title),(⟨#[]⟩:ByteArray),0,[]⟩:Change)]).bind fun r11=>
 letk (fun (x14:Bool)=>
  if x14 then
   letk (fun (x19:Bool)=>
    (some x19:Option Bool)) fun k3=>
   (w42_awake).bind fun r20=>
   if r20 then
    if (decide (r11.2=0)) then
     k3 true
    else
    if (decide (r11.2=8)) then
     k3 true
    else
    k3 (decide (r11.2=5))
   else
   k3 false
  else
  (ZdH).bind fun r21=>
  (ZbW p4 8).bind fun r22=>
  (atI r21 r22).bind fun e23=>
  (Zb2 r1 e4 e23 0 1).bind fun r24=>
  (Zb2 r11.1 e4 e23 0 1).bind fun r25=>
  letk (fun (x37:Bool)=>
   (some x37:Option Bool)) fun k4=>
  (w42_awake).bind fun r38=>
  if r38 then
   (ZaN r1 e4 0).bind fun r39=>
   (ZaN r11.1 e4 0).bind fun r40=>
   (Za4 r39 r40).bind fun r41=>
   if r41 then
    (ZbB r1 e4 1000).bind fun r42=>
    (ZbB r11.1 e4 1000).bind fun r43=>
    (Za4 r42 r43).bind fun r44=>
    if r44 then
     (ZaE r1 e4).bind fun r45=>
     (ZaE r11.1 e4).bind fun r46=>
     (ZdV r45 r46).bind fun r47=>
     if r47 then
      if (decide (r24.2=r25.2)) then
       (ZeM r24.1 r25.1).bind fun r48=>
       k4 r48
      else
      k4 false
     else
     k4 false
    else
    k4 false
   else
   k4 false
  else
  k4 false) fun k1=>
 if (!decide (r11.2=0)) then
  k1 true
 else
 (ZaT r11.1 e4 e7).bind fun r49=>
 if r49 then
  k1 true
 else
 (ZaT r1 e4 e7).bind fun r50=>
 k1 r50
theorem Zln (p0:List Int) (p1:List Int) (p2:Int) (p3:Int) (p4:Int) (r:Bool) (h:Zey p0 p1 p2 p3 p4=some r):Zd Tryz.prog 7 [.sl (List.map csI p0),.sl (List.map csI p1),.int .i64 p2,.int .i64 p3,.int .i64 p4] (.bool r):=by
 refine cF (fun r=>.bool r) h mix Tryz.func7 fun r h=>?_
 unfold Zey at h
 refine Zh ?_
 refine rg ?_
 refine rg ?_
 refine aC h (ZdK _ _) fun r1 h=>?_
 refine aC h Zgg fun r2 h=>?_
 refine aC h (ZbG _ _) fun r3 h=>?_
 refine aI csS h fun e4 h=>?_
 refine aC h Zec fun r5 h=>?_
 refine aC h (ZbG _ _) fun r6 h=>?_
 refine aI Title.cs h fun e7 h=>?_
 refine rg ?_
 refine aC h Zec fun r8 h=>?_
 refine aC h (ZbG _ _) fun r9 h=>?_
 refine aI Title.cs h fun e10 h=>?_
 refine ZZ (M:=([(⟨1,(⟨#[99,121]⟩:ByteArray),(⟨#[]⟩:ByteArray),e7,(⟨0,(⟨#[]⟩:ByteArray)⟩:Title),(⟨#[104,105,100,100,101,110]⟩:ByteArray),0,[]⟩:Change),(⟨7,(⟨#[122,101,100]⟩:ByteArray),(⟨#[]⟩:ByteArray),e10,(⟨0,(⟨#[]⟩:ByteArray)⟩:Title),(⟨#[]⟩:ByteArray),0,[]⟩:Change)]:List Change)) (f:=Change.cs) rfl rfl rfl rfl (Nat.le_of_ble_eq_true rfl) rfl (Zh ?_)
 refine aC h (ZbT _ _) fun r11 h=>?_
 refine jL h (fun x14=>mkS [(4,.int .i64 p4),(11,.ptr 11 (1,11) 0),(12,.str e4),(14,.ptr 14 (1,14) 0),(15,.int .i64 r11.2),(61,.bool x14)] [(11,some ((1,11),.box (State.cs r1))),(14,some ((1,14),.box (State.cs r11.1)))] 2) (fun k1 h=>?_) fun x14 h=>?_
 ·refine rg ?_
  refine kS 50 h rfl (fun h=>?_) fun h=>?_
  ·iterate 8 refine Zi rfl (Zh ?_)
   exact jn true h (sR [(11,2,13),(14,3,14)])
  refine aC h (ZbQ _ _ _) fun r49 h=>?_
  refine kS 56 h rfl (fun h=>?_) fun h=>?_
  ·iterate 4 refine Zi rfl (Zh ?_)
   exact jn true h (sR [(11,2,13),(14,3,14)])
  refine aC h (ZbQ _ _ _) fun r50 h=>?_
  exact jn r50 h (sR [(11,2,13),(14,3,14)])
 refine cS h rfl (fun h=>?_) fun h=>?_
 ·refine jL h (fun x19=>mkS [(10,.bool x19)] [] 2) (fun k3 h=>?_) fun x19 h=>?_
  ·refine rg ?_
   refine aC h Zcj fun r20 h=>?_
   refine kS 63 h rfl (fun h=>?_) fun h=>?_
   ·refine kS 66 h rfl (fun h=>?_) fun h=>?_
    ·iterate 4 refine Zi rfl (Zh ?_)
     exact jn true h (sR [])
    refine kS 70 h rfl (fun h=>?_) fun h=>?_
    ·iterate 2 refine Zi rfl (Zh ?_)
     exact jn true h (sR [])
    exact jn (decide (r11.2=5)) h (sR [])
   iterate 10 refine Zi rfl (Zh ?_)
   exact jn false h (sR [])
  cases h
  exact rQ
 refine rg ?_
 refine aC h Zec fun r21 h=>?_
 refine aC h (ZbG _ _) fun r22 h=>?_
 refine aI Title.cs h fun e23 h=>?_
 refine rg ?_
 refine aC h (Zhe _ _ _ _ _) fun r24 h=>?_
 refine rg ?_
 refine aC h (Zhe _ _ _ _ _) fun r25 h=>?_
 refine jL h (fun x37=>mkS [(10,.bool x37)] [] 2) (fun k4 h=>?_) fun x37 h=>?_
 ·refine rg ?_
  refine aC h Zcj fun r38 h=>?_
  refine kS 95 h rfl (fun h=>?_) fun h=>?_
  ·refine aC h (ZcO _ _ _) fun r39 h=>?_
   refine aC h (ZcO _ _ _) fun r40 h=>?_
   refine aC h (Zc3 _ _) fun r41 h=>?_
   refine kS 104 h rfl (fun h=>?_) fun h=>?_
   ·refine aC h (Zfd _ _ _) fun r42 h=>?_
    refine aC h (Zfd _ _ _) fun r43 h=>?_
    refine aC h (Zc3 _ _) fun r44 h=>?_
    refine kS 113 h rfl (fun h=>?_) fun h=>?_
    ·refine aN h (Zcr _ _) fun r45 h=>?_
     refine aN h (Zcr _ _) fun r46 h=>?_
     refine aL h (Zh4 _ _) fun r47 h=>?_
     refine kS 122 h rfl (fun h=>?_) fun h=>?_
     ·refine kS 127 h rfl (fun h=>?_) fun h=>?_
      ·refine aC h (Znm _ _) fun r48 h=>?_
       exact jn r48 h (sR [])
      iterate 3 refine Zi rfl (Zh ?_)
      exact jn false h (sR [])
     iterate 6 refine Zi rfl (Zh ?_)
     exact jn false h (sR [])
    iterate 13 refine Zi rfl (Zh ?_)
    exact jn false h (sR [])
   iterate 20 refine Zi rfl (Zh ?_)
   exact jn false h (sR [])
  iterate 27 refine Zi rfl (Zh ?_)
  exact jn false h (sR [])
 cases h
 exact rQ
theorem Zlt (c:Change) (h1:c.kind=1∨c.kind=7) (hv:c.title.valid=true) (hu:ZcP c.user=true) (hne:c.user≠⟨#[]⟩):ZbH c=some true:=by
 refine ZV ?_
 unfold ZbH
 refine Zx (fun k=>Tot (k false) fun r=>r=true) ?_ fun k hk=>?_
 ·refine Zs rfl ?_
  refine Zx (fun k=>(c.kind=7→Tot (k true) fun r=>r=true)∧(c.kind=1→Tot (k false) fun r=>r=true)) ⟨fun h7=>ZH rfl (Zb (by simp [hne])),fun h1=>?_⟩ fun k hk=>?_
  ·refine Zs rfl ?_
   refine Zc (fun h=>absurd h (by omega)) fun _=>?_
   refine Zc (fun h=>absurd h (by omega)) fun _=>?_
   refine Zc (fun h=>absurd h (by omega)) fun _=>?_
   refine Zc (fun h=>absurd h (by omega)) fun _=>?_
   refine Zc (fun h=>absurd h (by omega)) fun _=>?_
   exact Zb rfl
  ·rcases h1 with h1 | h1
   ·refine Zc (fun h=>absurd h (by omega)) fun _=>?_
    rw [decide_eq_false (by omega)]
    exact hk.2 h1
   ·refine Zc (fun h=>?_) fun h=>absurd h1 h
    rw [decide_eq_true h]
    exact hk.1 h1
 ·refine ZQ (fun _=>?_) fun h=>absurd h (by omega)
  refine ZQ (fun _=>?_) fun h=>absurd h (by omega)
  refine Za (v:=true) (by unfold ZbD;rw [hv]) ?_
  refine Zs rfl ?_
  refine Za (ZgD _) ?_
  rw [hu]
  exact hk
theorem Zlu (c:Change) (hf:Zg2 c=some true) (hw:ZbH c=some true) (h1:c.text.size≤8192) (h2:c.note.size≤200) (h3:c.history = []):Zby c=some 0:=by
 refine ZV ?_
 unfold Zby
 refine Za hf ?_
 refine Zs rfl ?_
 refine Za hw ?_
 refine Zs rfl ?_
 refine Zx (fun k=>Tot (k false) fun r=>r=0) ?_ fun k hk=>?_
 ·refine Zs rfl ?_
  refine Zj (fun i:Int=>i=0) (fun _=>0) rfl (by omega) ?_
  rintro i rec rfl ih
  refine Zc (fun h=>absurd h (by rw [h3];simp)) fun _=>Zb rfl
 ·refine Zc (fun h=>absurd h (by omega)) fun _=>?_
  rw [decide_eq_false (by omega)]
  exact hk
def cyU:ByteArray:=⟨#[99,121]⟩
def ZwF:ByteArray:=⟨#[122,101,100]⟩
def Zm8 (t:Title) (x:ByteArray):Change:=⟨1,cyU,⟨#[]⟩,t,⟨0,⟨#[]⟩⟩,x,0,[]⟩
def ZwG (t:Title):Change:=⟨7,ZwF,⟨#[]⟩,t,⟨0,⟨#[]⟩⟩,⟨#[]⟩,0,[]⟩
theorem ZfM:∀ t ∈ ZaJ,t.valid=true:=by decide +kernel
theorem Zkr (t:Title) (ht:t ∈ ZaJ) (x:ByteArray) (hx:x.size≤300):Zby (Zm8 t x)=some 0:=
 Zlu _ rfl (Zlt _ (.inl rfl) (ZfM t ht) (show ZcP cyU=true by decide +kernel) (show cyU≠⟨#[]⟩ by decide)) (by show x.size≤8192;omega) (by show (⟨#[]⟩:ByteArray).size≤200;decide) rfl
theorem Zsj (t:Title) (ht:t ∈ ZaJ):Zby (ZwG t)=some 0:=
 Zlu _ rfl (Zlt _ (.inr rfl) (ZfM t ht) (show ZcP ZwF=true by decide +kernel) (show ZwF≠⟨#[]⟩ by decide)) (show (⟨#[]⟩:ByteArray).size≤8192 by decide) (show (⟨#[]⟩:ByteArray).size≤200 by decide) rfl
theorem ZlZ (t:Title) (ht:t ∈ ZaJ) (x:ByteArray) (hx:x.size≤300):(Zm8 t x).tame∧(Zm8 t x).known:=
 ⟨⟨Zb3 t ht,ZcQ,Int.le_refl _,by show (0:Int)≤2000;decide,Nat.zero_le _,hx⟩,⟨fun _ _=>ht,fun e=>by cases e⟩⟩
theorem Ztj (t:Title) (ht:t ∈ ZaJ):(ZwG t).tame∧(ZwG t).known:=
 ⟨⟨Zb3 t ht,ZcQ,Int.le_refl _,by show (0:Int)≤2000;decide,Nat.zero_le _,Nat.zero_le _⟩,⟨fun _ _=>ht,fun e=>by cases e⟩⟩
theorem Zqr (t:Title) (ht:t ∈ ZaJ) (x:ByteArray):Par (ZaA (Zm8 t x)) fun b=>b=false:=by
 unfold ZaA
 refine Zt (fun _=>?_) fun h=>absurd rfl h
 refine ZaW (Q:=fun p=>p=policyT) (fun v e=>by injection e with e;exact e.symm) fun p hp=>?_
 subst hp
 exact ZbU (fun _=>Zq rfl) fun h=>absurd h (by
  have:=Zb3 t ht
  simp [Zm8,this])
theorem ZwH (t:Title):Par (ZaA (ZwG t)) fun b=>b=false:=by
 have:ZaA (ZwG t)=some false:=rfl
 rw [this]
 exact Zq rfl
theorem Zl0 {s:State} {c:Change} {z:Int} (hl:s.pages.length≤1000000) (hk:c.kind=1):Par (ZbE s c z) fun r=>(r.2=0→PutR s c z r.1)∧(r.2≠0→r.2=8):=by
 unfold ZbE
 exact Zt (fun _=>ZaW (Zw8 hl) fun v hv=>Zq hv) fun h=>absurd hk h
theorem Zqs {s:State} {c:Change} {z:Int} (hl:s.watches.length≤1000000) (hk:c.kind=7):Par (ZbE s c z) fun r=>(r.2=0→WatchR s c r.1)∧(r.2≠0→r.2=5∨r.2=8):=by
 unfold ZbE
 refine Zt (fun h=>absurd h (by omega)) fun _=>?_
 refine Zt (fun h=>absurd h (by omega)) fun _=>?_
 refine Zt (fun h=>absurd h (by omega)) fun _=>?_
 refine Zt (fun h=>absurd h (by omega)) fun _=>?_
 refine Zt (fun h=>absurd h (by omega)) fun _=>?_
 refine Zt (fun h=>absurd h (by omega)) fun _=>?_
 refine Zbz (fun k=>Par (k true) fun r:State×Int=>(r.2=0→WatchR s c r.1)∧(r.2≠0→r.2=5∨r.2=8)) ?_ fun k hk2=>?_
 ·refine ZbU (fun _=>ZaW (Zxe hl hk) fun v hv=>Zq hv) fun e=>by cases e
 ·refine Zt (fun h=>?_) fun h=>absurd hk h
  rw [decide_eq_true h]
  exact hk2
structure HidR (s:State) (t x:Title) (y:State):Prop where
 hist:∀ t',t'≠t→ZC y.pages t'=ZC s.pages t'
 titles:∀ t',t' ∈ y.pages.map (·.title)↔t'=t∨t' ∈ s.pages.map (·.title)
 watches:∃ n,y.watches=s.watches.take n++⟨ZwF,x⟩::s.watches.drop n
theorem Zzs {t0:ByteArray} {s:State} {m:Int} (hs:Zhr s m) (hm:m≤1000) (h:VS t0 s.seq s) (hp:∃ p n,Zai t0=some (p,n,0)) (t x:Title) (ht:t ∈ ZaJ) (hx:x ∈ ZaJ) (tx:ByteArray) (htx:tx.size≤300) :
  Tot (Zao s [Zm8 t tx,ZwG x]) fun r=>(r.2=0→Zhr r.1 (m+1)∧VS t0 r.1.seq r.1∧HidR s t x r.1)∧(r.2≠0→r.2=5∨r.2=8):=by
 have hseq:=hs.1.1.seq
 have htame:∀ c ∈ [Zm8 t tx,ZwG x],c.tame∧c.known:=fun c hc=>by
  rcases List.mem_cons.1 hc with rfl | hc
  ·exact ZlZ t ht tx htx
  ·rcases List.mem_cons.1 hc with rfl | hc
   ·exact Ztj x hx
   ·cases hc
 refine (ZeY (ZeY (madeW.step s m _ hs hm htame (by simp) (by simp)) (ZbS (ZrA h (by omega) hp (fun c hc=>(htame c hc).1) (by simp)))) (ZbS (Zqz (I:=fun n st=>match n with
  | 0=>st.pages=s.pages∧st.watches=s.watches
  | 1=>(∀ t',t'≠t→ZC st.pages t'=ZC s.pages t')∧(∀ t',t' ∈ st.pages.map (·.title)↔t'=t∨t' ∈ s.pages.map (·.title))∧st.watches=s.watches
  | _=>HidR s t x st) (E:=fun e=>e=5∨e=8) h (by omega) hp (fun c hc=>(htame c hc).1) (by simp) (by simp) ⟨rfl,rfl⟩ (fun c hc=>?_) (.inr fun c hc=>?_) (.inr rfl) fun n c st hc hV hsq cv hI=>?_))).mono fun r hr=>⟨fun h0=>⟨hr.1.1 h0,(hr.1.2 h0).1,?_⟩,hr.2.2⟩
 ·rcases List.mem_cons.1 hc with rfl | hc
  ·rw [Zkr t ht tx htx]
   exact Zq fun h=>absurd rfl h
  ·rcases List.mem_cons.1 hc with rfl | hc
   ·rw [Zsj x hx]
    exact Zq fun h=>absurd rfl h
   ·cases hc
 ·rcases List.mem_cons.1 hc with rfl | hc
  ·exact Zqr t ht tx
  ·rcases List.mem_cons.1 hc with rfl | hc
   ·exact ZwH x
   ·cases hc
 ·have hpl:=hV.plen
  have hwl:=hV.wlen
  match n,hc,hI with
  | 0,hc,hI=>
    injection hc with hc
    subst hc
    refine Zj0 (Zl0 (by omega) rfl) fun r hr=>⟨fun h0 ls=>?_,fun h0=>.inr (hr.2 h0)⟩
    obtain ⟨q1,q2,q3,q4,q5⟩:=hr.1 h0
    refine ⟨fun t' ht'=>?_,fun t'=>?_,q1.trans hI.2⟩
    ·have:=q3 t'
     rw [if_neg (show ¬ t'=(Zm8 t tx).title from ht')] at this
     rw [← hI.1]
     exact this
    ·rw [← hI.1]
     exact q4 t'
  | 1,hc,hI=>
    injection hc with hc
    subst hc
    refine Zj0 (Zqs (by omega) rfl) fun r hr=>⟨fun h0 ls=>?_,hr.2⟩
    obtain ⟨q1,q2,k,_,q3⟩:=hr.1 h0
    refine ⟨fun t' ht'=>?_,fun t'=>?_,k,?_⟩
    ·show ZC r.1.pages t'=_
     rw [q1]
     exact hI.1 t' ht'
    ·show t' ∈ r.1.pages.map _↔_
     rw [q1]
     exact hI.2.1 t'
    ·show r.1.watches=_
     rw [q3,hI.2.2]
     rfl
  | n+2,hc,hI=>simp at hc
 ·obtain ⟨st,hst,e⟩:=hr.2.1 h0
  rw [e]
  exact ⟨hst.hist,hst.titles,hst.watches⟩
def Ztv {α:Type} [DecidableEq α] (p0 p1:List α):Option Bool:=
 if (!decide ((p0.length:Int)=(p1.length:Int)))=true then some false else
 ZE Zaj (fun f2 (x18:Int)=>if decide (x18<(p0.length:Int))=true then (atI p0 x18).bind fun e25=>(atI p1 x18).bind fun e26=>if (!decide (e25=e26))=true then some false else f2 (w64 (x18+1)) else some true) 0
theorem ZjL {α:Type} [DecidableEq α] (l:List α) (hl:l.length≤1000000):Ztv l l=some true:=by
 refine ZV ?_
 unfold Ztv
 refine ZQ (fun h=>absurd rfl h) fun _=>?_
 refine Zj (fun i:Int=>0≤i∧i≤(l.length:Int)) (fun i=>((l.length:Int) - i).toNat) ⟨Int.le_refl _,by omega⟩ (by first | omega | (dsimp only;omega)) ?_
 rintro i rec ⟨h0,h1⟩ ih
 refine Zc (fun hlt=>?_) fun _=>Zb rfl
 refine Zl h0 hlt fun x _ hx=>?_
 refine Zl h0 hlt fun y _ hy=>?_
 refine ZQ (fun hne=>?_) fun _=>?_
 ·rw [hx] at hy
  injection hy with hy
  exact absurd hy hne
 ·rw [Zg (by omega) (by omega)]
  exact ih _ ⟨by omega,by omega⟩ (by omega)
theorem Zsv (l:List Title) (hl:l.length≤1000000):ZdV l l=some true:=ZjL l hl
theorem Zgl (l:List Item) (hl:l.length≤1000000):Za4 l l=some true:=ZjL l hl
theorem Zsw (l:List ByteArray) (hl:l.length≤1000000):Zda l l=some true:=by
 refine ZV ?_
 unfold Zda
 refine ZQ (fun h=>absurd rfl h) fun _=>?_
 refine Zrx (fun i:Int=>0≤i∧i≤(l.length:Int)) (fun i=>((l.length:Int) - i).toNat) _ ?_ _ _ ⟨Int.le_refl _,by omega⟩ (by first | omega | (dsimp only;omega))
 rintro i rec ⟨h0,h1⟩ ih
 refine Zc (fun hlt=>?_) fun _=>Zb rfl
 refine Zl h0 hlt fun x _ hx=>?_
 refine Zl h0 hlt fun y _ hy=>?_
 refine ZQ (fun hne=>?_) fun _=>?_
 ·rw [hx] at hy
  injection hy with hy
  exact absurd hy hne
 ·rw [Zg (by omega) (by omega)]
  exact ih _ ⟨by omega,by omega⟩ (by omega)
theorem Zsx (l:List Edit) (hl:l.length≤1000000) (hh:∀ e ∈ l,e.lines.length≤1000000):ZeM l l=some true:=by
 refine ZV ?_
 unfold ZeM
 refine ZQ (fun h=>absurd rfl h) fun _=>?_
 refine Zj (fun i:Int=>0≤i∧i≤(l.length:Int)) (fun i=>((l.length:Int) - i).toNat) ⟨Int.le_refl _,by omega⟩ (by first | omega | (dsimp only;omega)) ?_
 rintro i rec ⟨h0,h1⟩ ih
 refine Zc (fun hlt=>?_) fun _=>Zb rfl
 obtain ⟨x,hx⟩:∃ x,l[i.toNat]? = some x:=⟨_,List.getElem?_eq_getElem (by omega)⟩
 have get:∀ {f:Edit→Option Bool} {Q:Bool→Prop},Tot (f x) Q→Tot ((atI l i).bind f) Q:=fun hf=>by
  refine Za ?_ hf
  have:=ZbX hx
  rw [show ((i.toNat:Nat):Int)=i by omega] at this
  exact this
 refine Zx (fun k=>Tot (k false) fun r=>r=true) (Zs rfl (ih _ ⟨by rw [Zg (by omega) (by omega)];omega,by rw [Zg (by omega) (by omega)];omega⟩ (by rw [Zg (by omega) (by omega)];omega))) fun k hk=>?_
 refine get (get ?_)
 refine ZQ (fun h=>absurd rfl h) fun _=>?_
 refine get (get ?_)
 refine Za (Zsw _ (hh x (List.mem_of_getElem? hx))) ?_
 exact hk
theorem ZjV {l m:List Stored} {t:Title} (ht:t≠policyT) (h:∀ t',t' ∈ m.map (·.title)↔t'=t∨t' ∈ l.map (·.title)):ZdR m=ZdR l:=by
 have e:∀ l:List Stored,ZdR l=true↔policyT ∈ l.map (·.title):=fun l=>by
  unfold ZdR
  rw [List.any_eq_true]
  constructor
  ·rintro ⟨p,hp,e⟩
   exact List.mem_map.2 ⟨p,hp,of_decide_eq_true e⟩
  ·intro h
   obtain ⟨p,hp,e⟩:=List.mem_map.1 h
   exact ⟨p,hp,decide_eq_true e⟩
 rw [Bool.eq_iff_iff,e,e,h]
 constructor
 ·rintro (h | h)
  ·exact absurd h.symm ht
  ·exact h
 ·exact .inr
theorem Zc2 (l:List Stored) (t:Title):l.any (fun p=>decide (p.title=t))=decide (t ∈ l.map (·.title)):=by
 rw [Bool.eq_iff_iff,List.any_eq_true,decide_eq_true_eq]
 constructor
 ·rintro ⟨p,hp,e⟩
  exact List.mem_map.2 ⟨p,hp,of_decide_eq_true e⟩
 ·intro h
  obtain ⟨p,hp,e⟩:=List.mem_map.1 h
  exact ⟨p,hp,decide_eq_true e⟩
theorem Zpv {l m:List Stored} {f g:Title→Bool} (hf:∀ t,f t=g t) (hh:∀ t,g t=true→ZC m t=ZC l t) (T:List Title):ents m f T=ents l g T:=by
 unfold ents
 congr 1
 funext t
 unfold ZdQ
 rw [hf t]
 by_cases h:g t=true
 ·rw [if_pos h,if_pos h,hh t h]
 ·rw [if_neg h,if_neg h]
theorem ZgW (l:List Stored) (f:Title→Bool):∀ T:List Title,ents l f T=(T.filter f).flatMap fun t=>(ZC l t).map (Zd4 t)
 | []=>rfl
 | t::T=>by
   have ih:=ZgW l f T
   unfold ents at ih ⊢
   rw [List.flatMap_cons,ih]
   unfold ZdQ
   by_cases h:f t=true
   ·rw [if_pos h,List.filter_cons_of_pos h,List.flatMap_cons]
   ·rw [if_neg h,List.filter_cons_of_neg h,List.nil_append]
theorem ZrK {α β:Type} {f:α→List β} {l:List α} {a:α} (h:a ∈ l):(f a).Sublist (l.flatMap f):=by
 obtain ⟨A,B,rfl⟩:=List.append_of_mem h
 rw [List.flatMap_append,List.flatMap_cons]
 exact (List.sublist_append_left _ _).trans (List.sublist_append_right _ _)
theorem Zsy:∀ u ∈ usersG,u≠ZwF:=by decide +kernel
theorem ZqQ {l:List Watch} {n:Nat} {x:Title} {u:ByteArray} (hu:u≠ZwF):ZB (l.take n++⟨ZwF,x⟩::l.drop n) u=ZB l u:=by
 unfold ZB
 rw [List.filter_append,List.filter_cons_of_neg (by simpa using fun e=>hu e.symm),← List.filter_append,List.take_append_drop]
theorem ZqR (l m:List Int) (who at_ other:Int) (hl:l.length≤9223372036854775807) (hm:m.length≤9223372036854775807):Zey l m who at_ other=some true:=by
 refine ZV ?_
 unfold Zey
 refine Zf (ZhA l m hl hm) fun s hs=>?_
 refine Za (v:=usersG) rfl ?_
 refine Zf (Zfw who 4 (by omega) (by omega)) fun w hw=>?_
 refine Zhz hw.1 hw.2 fun u hu=>?_
 refine Za (v:=ZaJ) rfl ?_
 refine Zf (Zfw at_ 8 (by omega) (by omega)) fun w2 hw2=>?_
 refine Zl hw2.1 hw2.2 fun t ht _=>?_
 refine Za (v:=ZaJ) rfl ?_
 obtain ⟨w3,ew3,hw3⟩:=Zfw other 8 (by omega) (by omega)
 refine Za ew3 ?_
 obtain ⟨x,hx⟩:∃ x,ZaJ[w3.toNat]? = some x:=⟨_,List.getElem?_eq_getElem (by show w3.toNat<8;omega)⟩
 have hxm:=List.mem_of_getElem? hx
 have ex:atI ZaJ w3=some x:=by
  have:=ZbX hx
  rw [show ((w3.toNat:Nat):Int)=w3 by omega] at this
  exact this
 refine Za ex ?_
 obtain ⟨t0,ht0,hv⟩:=hs.1.1.ex
 obtain ⟨P0,hP,G,hR,hRy⟩:=Zr7 (u:=u) hv ht0 hu
 obtain ⟨pp,hpp⟩:=Zgu t0 ht0
 have hpl:=hs.1.plen
 refine Zf (Zzs hs (by omega) hv ⟨pp,0,hpp⟩ t x ht hxm (⟨#[104,105,100,100,101,110]⟩:ByteArray) (by decide)) fun r hr=>?_
 obtain ⟨y,e⟩:=r
 dsimp only at hr ⊢
 have awk:∀ {f:Bool→Option Bool},Tot (f true) (fun r=>r=true)→Tot (w42_awake.bind f) fun r=>r=true:=fun h=>Za Zgm h
 refine Zx (fun k=>((e=0∨e=5∨e=8)→Tot (k true) fun r=>r=true)∧(e=0→rdB y.pages (Zb4 P0 s.pages) G t=false→rdB s.pages (Zb4 P0 s.pages) G t=false→Tot (k false) fun r=>r=true)) ⟨fun he=>?_,fun he hfy hfs=>?_⟩ fun k hk=>?_
 ·refine ZH rfl ?_
  refine ZJ ?_
  refine awk (ZH rfl ?_)
  refine Zc (fun _=>Zb rfl) fun h0=>?_
  refine Zc (fun _=>Zb rfl) fun h8=>Zb ?_
  exact decide_eq_true (by omega)
 ·obtain ⟨hy,hvy,hH⟩:=hr.1 he
  have hpol:ZdR y.pages=ZdR s.pages:=ZjV (Zb3 t ht) hH.titles
  have hRy':=hRy y _ hvy hpol
  refine Zs rfl ?_
  refine Za (v:=ZaJ) rfl ?_
  refine Za ew3 ?_
  refine Za ex ?_
  have hmay:∀ t',rdB y.pages (Zb4 P0 s.pages) G t'=rdB s.pages (Zb4 P0 s.pages) G t':=fun t'=>by
   by_cases c:t'=t
   ·rw [c,hfy,hfs]
   ·unfold rdB
    rw [Zc2,Zc2]
    congr 1
    exact decide_eq_decide.2 ⟨fun h=>((hH.titles t').1 h).resolve_left c,fun h=>(hH.titles t').2 (.inr h)⟩
  have hist:∀ t',rdB s.pages (Zb4 P0 s.pages) G t'=true→ZC y.pages t'=ZC s.pages t':=fun t' h=>hH.hist t' fun c=>by
   rw [c,hfs] at h
   cases h
  have mayt:ZiO (Zb4 P0 s.pages) G 1 t=false:=by
   unfold rdB at hfy
   rw [Zc2,decide_eq_true ((hH.titles t).2 (.inl rfl)),Bool.true_and] at hfy
   exact hfy
  have hpy:=hy.1.plen
  have dS:=Ziv hs.1 hR.rd hu x hxm 0 1
  have dY:=Ziv hy.1 hRy'.rd hu x hxm 0 1
  have hN:=Zw0 hv x
  have dE:Zb2 y u x 0 1=Zb2 s u x 0 1∧Tot (Zb2 s u x 0 1) fun r=>r.1.length≤1000000∧∀ e ∈ r.1,e.lines.length≤1000000:=by
   rw [dS,dY]
   cases hmx:ZiO (Zb4 P0 s.pages) G 1 x with
   | false=>exact ⟨rfl,⟨([],10),rfl,by simp,fun e h=>by cases h⟩⟩
   | true=>
     have hxt:x≠t:=fun c=>by
      rw [c,mayt] at hmx
      cases hmx
     have e1:y.pages.any (fun p=>decide (p.title=x))=s.pages.any (fun p=>decide (p.title=x)):=by
      rw [Zc2,Zc2]
      exact decide_eq_decide.2 ⟨fun h=>((hH.titles x).1 h).resolve_left hxt,fun h=>(hH.titles x).2 (.inr h)⟩
     rw [e1,hH.hist x hxt]
     refine ⟨rfl,?_⟩
     unfold ZqP
     rw [if_neg (by simp)]
     split
     ·have b1:=(ZhN hN 0).2
      have b2:=(ZhN hN 1).2
      obtain ⟨D,hD1,k1,k2,k3,k4⟩:=Ztu (Zjb (ZC s.pages x) 0).1 (Zjb (ZC s.pages x) 1).1 (by omega) (by omega)
      rw [hD1]
      refine ⟨(D,0),rfl,k4,fun e he=>?_⟩
      have l1:e.lines.length≤(Za7 D).length∨e.lines.length≤(Zbd D).length:=by
       by_cases h3:e.kind=3
       ·right
        unfold Zbd
        have:e.lines.Sublist (D.flatMap fun e=>if e.kind=2 then [] else e.lines):=by
         have:=ZrK (f:=fun e:Edit=>if e.kind=2 then [] else e.lines) he
         rwa [if_neg (by omega)] at this
        exact this.length_le
       ·left
        unfold Za7
        have:e.lines.Sublist (D.flatMap fun e=>if e.kind=3 then [] else e.lines):=by
         have:=ZrK (f:=fun e:Edit=>if e.kind=3 then [] else e.lines) he
         rwa [if_neg h3] at this
        exact this.length_le
      have c1:=Ztt (Zjb (ZC s.pages x) 0).1
      have c2:=Ztt (Zjb (ZC s.pages x) 1).1
      rw [k2,k3] at l1
      rcases l1 with h | h<;>omega
     ·exact ⟨([],4),rfl,by simp,fun e h=>by cases h⟩
  obtain ⟨dE1,D,hD,hDl,hDe⟩:=dE
  refine Za hD ?_
  refine Za (dE1.trans hD) ?_
  refine ZJ ?_
  refine awk (ZH rfl ?_)
  obtain ⟨F,hF1,hF2,hF3,hF⟩:=ZlT hs hR.rd
  obtain ⟨Fy,hFy1,hFy2,hFy3,hFy⟩:=ZlT hy hRy'.rd
  have hWy:ZB y.watches u=ZB s.watches u:=by
   obtain ⟨n,hn⟩:=hH.watches
   rw [hn]
   exact ZqQ (Zsy u hu)
  have eF:Fy=F:=by
   rw [hWy,Zpv hmay hist] at hFy1
   exact (ZnZ (fun a ha b hb=>Zls hv a (hF1.mem_iff.1 ha) b (hF1.mem_iff.1 hb)) (hF1.trans hFy1.symm) hF2 hFy2).symm
  subst eF
  refine Za (hF 0) ?_
  refine Za (hFy 0) ?_
  refine Za (Zgl _ (by rw [List.length_drop,List.length_map];omega)) ?_
  refine ZH rfl ?_
  obtain ⟨R,hR1,hR2,hR3,hRk⟩:=ZlI hs hR.rd
  obtain ⟨Ry,hRy1,hRy2,hRy3,hRyk⟩:=ZlI hy hRy'.rd
  have eR:Ry=R:=by
   rw [Zpv hmay hist,ZgW] at hRy1
   rw [ZgW] at hR1
   have hperm:((y.pages.map (·.title)).filter (rdB s.pages (Zb4 P0 s.pages) G)).Perm ((s.pages.map (·.title)).filter (rdB s.pages (Zb4 P0 s.pages) G)):=
    (List.perm_ext_iff_of_nodup ((Zbg hy.1.titles).filter _) ((Zbg hs.1.titles).filter _)).2 fun a=>by
     rw [List.mem_filter,List.mem_filter,hH.titles a]
     constructor
     ·rintro ⟨h | h,h'⟩
      ·rw [h,hfs] at h'
       cases h'
      ·exact ⟨h,h'⟩
     ·rintro ⟨h,h'⟩
      exact ⟨.inr h,h'⟩
   have hp2:=hR1.trans ((Zb7 (fun t=>(ZC s.pages t).map (Zd4 t)) hperm).symm.trans hRy1.symm)
   rw [← ZgW] at hR1
   exact (ZnZ (fun a ha b hb=>Zls hv a (hR1.mem_iff.1 ha) b (hR1.mem_iff.1 hb)) hp2 hR2 hRy2).symm
  subst eR
  refine Za (hRk 1000) ?_
  refine Za (hRyk 1000) ?_
  refine Za (Zgl _ (by rw [List.length_take,List.length_reverse,List.length_map];omega)) ?_
  refine ZH rfl ?_
  have hwl:=hv.wlen
  have hwy:=hvy.wlen
  refine Za (Zdx s u (by omega)) ?_
  refine Za (Zdx y u (by omega)) ?_
  rw [hWy]
  refine Za (Zsv _ (by have:=Zb6 hv.wsort hs.2 u;omega)) ?_
  refine ZH rfl ?_
  refine Zc (fun _=>?_) fun h=>absurd rfl h
  exact Za (Zsx _ hDl hDe) (Zb rfl)
 ·refine ZQ (fun h=>hk.1 ?_) fun h0=>?_
  ·rcases hr.2 h with h | h
   ·exact .inr (.inl h)
   ·exact .inr (.inr h)
  ·obtain ⟨hy,hvy,hH⟩:=hr.1 h0
   have hRy':=hRy y _ hvy (ZjV (Zb3 t ht) hH.titles)
   have hpy:=hy.1.plen
   refine Za (Zdv hRy' (by omega) t) ?_
   refine Zaw (fun _=>hk.1 (.inl h0)) fun hfy=>?_
   refine Za (Zdv hR (by omega) t) ?_
   cases hfs:rdB s.pages (Zb4 P0 s.pages) G t
   ·exact hk.2 h0 hfy hfs
   ·exact hk.1 (.inl h0)
end Go.Proofs.YtjoneoobolnnbaaGreatDoor
namespace Go.Proofs.YtjoneoobolnnbaaGreatDoor
open VL Go.RowKit
theorem Zfm {α:Type} [Enc α] {w:World} {A:Option Addr} {n c:Nat} {xs:List α} (h:SlR w A n c xs):xs.length≤9223372036854775807:=by
 obtain ⟨h1,h2,h3,h4⟩:=h
 omega
theorem Zqp {x:Ctx} (i:Nat) (p:PV) (v:Value) (hp:([]:List PV)[i]? = some p) (hv:([]:List Value)[i]? = some v):Rep x p v:=by simp at hp
theorem Zf4 {x:Ctx} {p:PV} {v:Value} {ps:List PV} {vs:List Value} (h:Rep x p v) (r:∀ (i:Nat) (p:PV) (v:Value),ps[i]? = some p→vs[i]? = some v→Rep x p v) (i:Nat) (q:PV) (w:Value) (hp:(p::ps)[i]? = some q) (hv:(v::vs)[i]? = some w):Rep x q w:=by
 cases i with
 | zero=>injection hp with hp;injection hv with hv;subst hp hv;exact h
 | succ i=>exact r i q w (by simpa using hp) (by simpa using hv)
theorem Zqq {x:Ctx} {ps:List PV} {vs:List Value} (r:∀ (i:Nat) (p:PV) (v:Value),ps[i]? = some p→vs[i]? = some v→Rep x p v) (i:Nat) (p:PV) (v:Value) (hp:ps[i]? = some p) (hv:vs.toArray[i]? = some v):Rep x p v:=r i p v hp (by simpa using hv)
theorem Znh {A0:Option Addr} {n0 c0:Nat} {l0:List Int} {A1:Option Addr} {n1 c1:Nat} {l1:List Int} (i2:Int) (i3:Int) (i4:Int) (W:World) (h0:SlR W A0 n0 c0 l0) (h1:SlR W A1 n1 c1 l1) (hI:∀ W',Below W.heap.size W W'→WInv.I Tryz.prog W') :
  Calls Tryz.prog 7 #[.slice A0 n0 c0,.slice A1 n1 c1,.int .i64 i2,.int .i64 i3,.int .i64 i4] W fun e w'=>e = .returned (.bool true)∧Below W.heap.size W w':=
 Zgv (Zln l0 l1 i2 i3 i4 true (ZqR l0 l1 i2 i3 i4 (Zfm h0) (Zfm h1))) rfl (fun i p v hp hv=>Zqq (vs:=[.slice A0 n0 c0,.slice A1 n1 c1,.int .i64 i2,.int .i64 i3,.int .i64 i4]) (Zf4 (ZeG h0) (Zf4 (ZeG h1) (Zf4 (.int _ _) (Zf4 (.int _ _) (Zf4 (.int _ _) Zqp))))) i p v hp hv) hI
end Go.Proofs.YtjoneoobolnnbaaGreatDoor
