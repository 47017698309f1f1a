/- Names of users and groups. | The reference's Has, BuiltIn, exists; the program's builtIn. | IsName and Has of the reference, as the others are written. | Functions of the program as Lean functions. Written by fxgen.py. -/
import Derived.Test.YtpffimahajgiaaaGreatDoorVV06
import Derived.Test.YtpffimahajgiaaaGreatDoorVV07
import Derived.Test.YtpffimahajgiaaaGreatDoorVV03
import Derived.Test.YtpffimahajgiaaaGreatDoorVV05
import Derived.Test.YtpffimahajgiaaaGreatDoorVV02
namespace Go.Proofs.YtpffimahajgiaaaGreatDoor
open Go.RowKit
def ZaI (c:UInt8):Bool:=decide ((97≤c.toNat∧c.toNat≤122)∨(48≤c.toNat∧c.toNat≤57)∨c.toNat=45∨c.toNat=95)
def Zao (s:ByteArray):Bool:=decide (1≤s.size∧s.size≤30∧97≤(s.data.toList.headD 0).toNat∧(s.data.toList.headD 0).toNat≤122)&&s.data.toList.all ZaI
theorem ZiI (s:ByteArray) (h:0<s.size):s.data.toList.headD 0=s[0]:=by
 have h2:s.data.toList[0]? = some s[0]:=List.getElem?_eq_getElem (by rw [Array.length_toList];exact h)
 cases hl:s.data.toList with
 | nil=>rw [hl] at h2;cases h2
 | cons a r=>rw [hl] at h2;simpa using h2
theorem ZjS (s:ByteArray) (h:∀ j (hj:j<s.size),ZaI s[j]=true):s.data.toList.all ZaI=true:=by
 rw [List.all_eq_true]
 intro x hx
 obtain ⟨j,hj,rfl⟩:=List.mem_iff_getElem.1 hx
 exact h j (by rw [Array.length_toList] at hj;exact hj)
theorem ZjT (s:ByteArray) (j:Nat) (hj:j<s.size) (h:ZaI s[j]=false):s.data.toList.all ZaI=false:=by
 rw [List.all_eq_false]
 exact ⟨s[j],List.mem_iff_getElem.2 ⟨j,by rw [Array.length_toList];exact hj,rfl⟩,by rw [h];decide⟩
theorem Zcr {s:ByteArray} (h:s.size<1):Zao s=false:=by
 unfold Zao;rw [decide_eq_false (by omega),Bool.false_and]
theorem ZdK {s:ByteArray} (h:30<s.size):Zao s=false:=by
 unfold Zao;rw [decide_eq_false (by omega),Bool.false_and]
theorem ZbK {s:ByteArray} (h:0<s.size) (h1:(s[0].toNat:Int)<97∨(122:Int)<s[0].toNat):Zao s=false:=by
 unfold Zao;rw [ZiI s h,decide_eq_false (by omega),Bool.false_and]
theorem Zbb {s:ByteArray} (j:Nat) (hj:j<s.size) (h:ZaI s[j]=false):Zao s=false:=by
 unfold Zao;rw [ZjT s j hj h,Bool.and_false]
theorem ZdL {s:ByteArray} (h0:0<s.size) (h30:s.size≤30) (h1:(97:Int)≤s[0].toNat) (h2:(s[0].toNat:Int)≤122) (h:∀ j (hj:j<s.size),ZaI s[j]=true):Zao s=true:=by
 unfold Zao;rw [ZjS s h,ZiI s h0,decide_eq_true (by omega)];rfl
set_option maxRecDepth 100000 in
set_option maxHeartbeats 2000000 in
theorem ZhS (s:ByteArray) (w:World) (hsz:s.size≤4611686018427387904):Calls Tryz.prog 38 #[.string s] w fun e w'=>e = .returned (.bool (Zao s))∧w=w':=by
 by_cases h0:s.size<1
 ·have HE:=Lib.hid (Zcr h0)
  go_enter Tryz.func38,Tryz.ntmps38
  go_wp2
  all_goals first | (exfalso;omega) | (go_ret;exact ⟨Zas HE.out.symm,rfl⟩)
 by_cases h30:30<s.size
 ·have HE:=Lib.hid (ZdK h30)
  have h0':(1:Int)≤s.size:=by omega
  go_enter Tryz.func38,Tryz.ntmps38
  go_wp2
  all_goals first | (exfalso;omega) | (go_ret;exact ⟨Zas HE.out.symm,rfl⟩)
 have hp:0<s.size:=by omega
 have h30':(s.size:Int)≤30:=by omega
 have h0':(1:Int)≤s.size:=by omega
 by_cases hf:(s[0].toNat:Int)<97∨(122:Int)<s[0].toNat
 ·have HE:=Lib.hid (ZbK hp hf)
  go_enter Tryz.func38,Tryz.ntmps38
  rcases hf with hf | hf
  all_goals
   go_wp2
  all_goals first | (exfalso;omega) | (go_ret;exact ⟨Zas HE.out.symm,rfl⟩)
 have hf1:(97:Int)≤s[0].toNat:=by omega
 have hf2:(s[0].toNat:Int)≤122:=by omega
 clear hf
 have HN:Hid (∀ j (hj:j<s.size),ZaI s[j]=false→Zao s=false):=Lib.hid fun j hj h=>Zbb j hj h
 have HG:Hid ((∀ j (hj:j<s.size),ZaI s[j]=true)→Zao s=true):=Lib.hid fun h=>ZdL hp (by omega) hf1 hf2 h
 go_enter Tryz.func38,Tryz.ntmps38
 go_wp2
 go_loop [3,4] (fun i _=>∃ q:Nat,q≤s.size∧i = .int .i64 q∧Hid (∀ j (hj:j<s.size),j<q→ZaI s[j]=true)) (fun i _=>s.size - (intOf i).toNat)
 case atStart=>exact ⟨0,by omega,rfl,Lib.hid fun j _ h=>absurd h (by omega)⟩
 case round=>
  obtain ⟨q,hq,rfl,hno⟩:=hrel
  clear hf1 hf2
  by_cases hlt:q<s.size
  ·have HS:Hid (ZaI s[q]=true→∀ j (hj:j<s.size),j<q+1→ZaI s[j]=true):=Lib.hid fun h j hj hj2=>by
    by_cases e:j<q
    ·exact hno.out j hj e
    ·have:j=q:=by omega
     subst this;exact h
   have HC:Hid (ZaI s[q]=decide ((97≤s[q].toNat∧s[q].toNat≤122)∨(48≤s[q].toNat∧s[q].toNat≤57)∨s[q].toNat=45∨s[q].toNat=95)):=Lib.hid rfl
   have b1:(0:Int)≤q:=by omega
   have b2:(q:Int)<(s.size:Int):=by omega
   go_wp2
   all_goals (try simp only [bne_iff_ne,bne_eq_false_iff_eq,ne_eq] at *)
   all_goals
    first
    | (have hn:ZaI s[q]=true:=by (rw [HC.out];exact decide_eq_true (by omega))
       exact ⟨⟨q+1,by omega,by simp,Lib.hid (HS.out hn)⟩,by simp [intOf];omega⟩)
    | (have hn:ZaI s[q]=false:=by (rw [HC.out];exact decide_eq_false (by omega))
       go_ret
       exact ⟨Zas (HN.out q hlt hn).symm,rfl⟩)
  ·have HE:=Lib.hid (HG.out fun j hj=>hno.out j hj (by omega))
   have b2:(s.size:Int)≤(q:Int):=by omega
   go_wp2
   all_goals first | (exfalso;omega) | (go_ret;exact ⟨Zas HE.out.symm,rfl⟩)
def Zkr (L:List ByteArray) (s:ByteArray):Bool:=L.any (fun x=>decide (x=s))
theorem Zks {L:List ByteArray} {q:Nat} {x s:ByteArray} (h:L.drop q=x::L.drop (q+1)) (hne:x≠s):Zkr (L.drop q) s=Zkr (L.drop (q+1)) s:=by
 unfold Zkr
 rw [h,List.any_cons,decide_eq_false hne,Bool.false_or]
theorem Zm6 {L:List ByteArray} {q:Nat} {x s:ByteArray} (h:L.drop q=x::L.drop (q+1)) (he:x=s):Zkr (L.drop q) s=true:=by
 unfold Zkr
 rw [h,List.any_cons,decide_eq_true he,Bool.true_or]
set_option maxRecDepth 100000 in
set_option maxHeartbeats 1000000 in
theorem Zjj (A:Option Addr) (n c:Nat) (L:List ByteArray) (s:ByteArray) (w:World) (hS:SlR w A n c L):Calls Tryz.prog 110 #[.slice A n c,.string s] w fun e w'=>e = .returned (.bool (Zkr L s))∧w=w':=by
 have HS:=Lib.hid hS
 have hle:=hS.le
 have hle2:(n:Int)≤9223372036854775807:=by omega
 have HN:=Lib.hid hS.1
 clear hS
 go_enter Tryz.func110,Tryz.ntmps110
 go_wp2
 go_loop [5] (fun i=>∃ q:Nat,q≤n∧i = .int .i64 q∧Hid (Zkr L s=Zkr (L.drop q) s)) (fun i=>n - (intOf i).toNat)
 case atStart=>exact ⟨0,by omega,rfl,rfl⟩
 case round=>
  obtain ⟨q,hq,rfl,hno⟩:=hrel
  by_cases hlt:q<n
  ·have b1:(0:Int)≤q:=by omega
   have b2:(q:Int)<(n:Int):=by omega
   obtain ⟨b,off,x,cs,hA,hbl,hx,hd,hR,hc⟩:=(HS.out).elem hlt
   obtain rfl:=hA
   have d0:w.cell? ⟨b,off+q,none⟩=some (.string x):=by subst hR;simpa using hc 0 _ rfl
   have HD:=Lib.hid hd
   have HX:=Lib.hid hx
   clear hx hd hR hc
   go_wp2
   all_goals (try simp only [beq_iff_eq,beq_eq_false_iff_ne,ne_eq] at *)
   ·have h:x.toList=s.toList:=by assumption
    go_ret
    refine ⟨Zas ?_,rfl⟩
    rw [hno.out,Zm6 HD.out (toList_inj h)]
   ·have h:¬ x.toList=s.toList:=by assumption
    exact ⟨⟨q+1,by omega,by simp,Lib.hid (hno.out.trans (Zks HD.out (fun e=>h (by rw [e]))))⟩,by simp [intOf];omega⟩
  ·obtain rfl:q=n:=by omega
   have HE:Hid (Zkr L s=false):=Lib.hid (by rw [hno.out,HN.out,List.drop_length];rfl)
   go_wp2
   go_ret
   exact ⟨Zas HE.out.symm,rfl⟩
def Zbt (s:ByteArray):Bool:=(s.toList == [97,108,108])||(s.toList == [117,115,101,114,115])
set_option maxRecDepth 100000 in
set_option maxHeartbeats 1000000 in
theorem Zfy (s:ByteArray) (w:World):Calls Tryz.prog 123 #[.string s] w fun e w'=>e = .returned (.bool (Zbt s))∧w=w':=by
 go_enter Tryz.func123,Tryz.ntmps123
 go_wp2
 all_goals
  go_ret
  refine ⟨Zas ?_,rfl⟩
  unfold Zbt
  simp_all
set_option maxRecDepth 100000 in
set_option maxHeartbeats 1000000 in
theorem Zh9 (s:ByteArray) (w:World):Calls Tryz.prog 115 #[.string s] w fun e w'=>e = .returned (.bool (Zbt s))∧w=w':=by
 go_enter Tryz.func115,Tryz.ntmps115
 go_wp2
 all_goals
  go_ret
  refine ⟨Zas ?_,rfl⟩
  unfold Zbt
  simp_all
end Go.Proofs.YtpffimahajgiaaaGreatDoor
namespace Go.Proofs.YtpffimahajgiaaaGreatDoor
open VL Go.RowKit
def ZcF (s:ByteArray):Option Bool:=if s.size≤4611686018427387904 then some (Zao s) else none
theorem ZeJ (s:ByteArray) (r:Bool) (h:ZcF s=some r):ZH Tryz.prog 38 [.str s] (.bool r):=by
 unfold ZcF at h
 by_cases hs:s.size≤4611686018427387904
 ·rw [if_pos hs] at h
  cases h
  exact Zal (vals:=[.string s]) (by kernel_rfl) rfl rfl (fun x=>.bool _) fun w _=>(ZhS s w hs).mono fun e w' ⟨e1,e2⟩=>⟨e1,e2 ▸ Below.refl _ _⟩
 ·rw [if_neg hs] at h
  cases h
def ZgI (L:List ByteArray) (s:ByteArray):Option Bool:=some (Zkr L s)
theorem ZhA (L:List ByteArray) (s:ByteArray) (r:Bool) (h:ZgI L s=some r):ZH Tryz.prog 110 [.sl (List.map csS L),.str s] (.bool r):=by
 cases h
 exact ZdE (by kernel_rfl) rfl (fun x=>.bool _) fun x vs hp _=>by
  obtain ⟨v,w,rfl,h1,h2⟩:=args2 hp
  obtain rfl:=ZmF h2
  obtain ⟨A,n,c,rfl,hS⟩:=ZhZ hp.flt h1
  exact (Zjj A n c L s x.W hS).mono fun e w' ⟨e1,e2⟩=>⟨e1,e2 ▸ Below.refl _ _⟩
end Go.Proofs.YtpffimahajgiaaaGreatDoor
set_option linter.unusedVariables false
set_option maxHeartbeats 4000000
set_option maxRecDepth 100000
namespace Go.Proofs.YtpffimahajgiaaaGreatDoor
open VL
def ZdS (p0:List ByteArray) (p1:ByteArray):Option (List ByteArray):=
 Zbf Zdy (fun f7 (x14:Int)=>
  letk (fun (x19:Bool)=>
   if x19 then
    f7 (w64 (x14+1))
   else
   letk (fun (x21:Bool)=>
    if x21 then
     (some p0:Option (List ByteArray))
    else
    (Zfx p0 0 x14).bind fun l22=>
    (Zc8 16 [] l22).bind fun l23=>
    (Zc8 16 l23 [p1]).bind fun l24=>
    (Zfx p0 x14 (p0.length:Int)).bind fun l25=>
    (Zc8 16 l24 l25).bind fun l26=>
    (some l26:Option (List ByteArray))) fun k9=>
   if (decide (x14<(p0.length:Int))) then
    (atI p0 x14).bind fun e27=>
    k9 (decide (e27=p1))
   else
   k9 false) fun k8=>
  if (decide (x14<(p0.length:Int))) then
   (atI p0 x14).bind fun e28=>
   k8 (ltS e28 p1)
  else
  k8 false) 0
theorem Zhx (p0:List ByteArray) (p1:ByteArray) (r:List ByteArray) (h:ZdS p0 p1=some r):ZH Tryz.prog 65 [.sl (List.map csS p0),.str p1] (.sl (List.map csS r)):=by
 refine cF (fun r=>.sl (List.map csS r)) h mix Tryz.func65 fun r h=>?_
 unfold ZdS at h
 refine Zac ?_
 refine rg ?_
 refine rg ?_
 refine bl ?_
 refine Zat h fun f7 mf7 hf7 h=>?_
 refine Zah (α:=Nat×Int) (fun a _=>mkS [(0,.sl (List.map csS p0)),(1,.str p1),(5,.int .i64 a.2)] [] 2) (fun a=>Zbf a.1 f7 a.2=some r) (fun a=>a.1) (mf7,0) 2 h (sR []) (fun a _ h=>?_)
 obtain ⟨mf7,x14⟩:=a
 obtain ⟨mf7,rfl,h⟩:=Zau hf7 h
 dsimp only at h ⊢
 refine Zac ?_
 refine jL h (fun x19=>mkS [(0,.sl (List.map csS p0)),(1,.str p1),(5,.int .i64 x14),(17,.bool x19)] [] 2) (fun k8 h=>?_) fun x19 h=>?_
 ·refine rg ?_
  refine lM csS p0 ?_
  refine kS 10 h rfl (fun h=>?_) fun h=>?_
  ·refine aI csS h fun e28 h=>?_
   exact jn (ltS e28 p1) h (sR [])
  iterate 6 refine ZY rfl (Zac ?_)
  exact jn false h (sR [])
 refine cS h rfl (fun h=>?_) fun h=>?_
 ·refine bl ?_
  refine rg ?_
  exact rn (mf7,(w64 (x14+1))) h (sR [])
 refine jL h (fun x21=>mkS [(0,.sl (List.map csS p0)),(1,.str p1),(5,.int .i64 x14),(31,.bool x21)] [] 2) (fun k9 h=>?_) fun x21 h=>?_
 ·refine rg ?_
  refine lM csS p0 ?_
  refine kS 24 h rfl (fun h=>?_) fun h=>?_
  ·refine aI csS h fun e27 h=>?_
   exact jn (decide (e27=p1)) h (sR [])
  iterate 6 refine ZY rfl (Zac ?_)
  exact jn false h (sR [])
 refine cS h rfl (fun h=>?_) fun h=>?_
 ·refine rg ?_
  cases h
  exact rQ
 refine rg ?_
 refine sM csS h fun l22 h=>?_
 obtain ⟨l23,h14,h⟩:=bnd h
 refine Zd8 (f:=csS) rfl h14 (fun _=>rfl) rfl rfl rfl (Zac ?_)
 refine bM csS ([p1]:List ByteArray) ?_
 refine pR csS h fun l24 h=>?_
 refine sM csS h fun l25 h=>?_
 refine pR csS h fun l26 h=>?_
 cases h
 exact rQ
def Zck (p0:Group) (p1:ByteArray) (p2:List ByteArray):Option Bool:=
 Zbf Zdy (fun f12 (x130:Int)=>
  if (decide (x130<(p0.members.length:Int))) then
   (atI p0.members x130).bind fun e179=>
   letk (fun (x187:Bool)=>
    if x187 then
     (some true:Option Bool)
    else
    f12 (w64 (x130+1))) fun k14=>
   (ZcF p1).bind fun r188=>
   if r188 then
    if (decide (e179=p1)) then
     k14 true
    else
    if (decide (0<(e179.size:Int))) then
     (atS e179 0).bind fun c189=>
     if (decide (c189=64)) then
      (ZlJ e179 1 (e179.size:Int)).bind fun l190=>
      (ZgI p2 l190).bind fun r191=>
      k14 r191
     else
     k14 false
    else
    k14 false
   else
   if (decide (0<(e179.size:Int))) then
    (atS e179 0).bind fun c192=>
    if (decide (c192=64)) then
     (ZlJ e179 1 (e179.size:Int)).bind fun l193=>
     (ZgI p2 l193).bind fun r194=>
     k14 r194
    else
    k14 false
   else
   k14 false
  else
  (some false:Option Bool)) 0
theorem ZgH (p0:Group) (p1:ByteArray) (p2:List ByteArray) (r:Bool) (h:Zck p0 p1 p2=some r):ZH Tryz.prog 66 [p0.pv,.str p1,.sl (List.map csS p2)] (.bool r):=by
 refine cF (fun r=>.bool r) h mix Tryz.func66 fun r h=>?_
 unfold Zck at h
 refine Zac ?_
 refine rg ?_
 refine rg ?_
 refine bl ?_
 refine Zat h fun f12 mf12 hf12 h=>?_
 refine Zah (α:=Nat×Int) (fun a _=>mkS [(1,.str p1),(2,.sl (List.map csS p2)),(3,.ptr 3 (1,3) 0),(7,.int .i64 a.2)] [(3,some ((1,3),.box (Group.cs p0)))] 2) (fun a=>Zbf a.1 f12 a.2=some r) (fun a=>a.1) (mf12,0) 2 h (sR [(3,1,0)]) (fun a _ h=>?_)
 obtain ⟨mf12,x130⟩:=a
 obtain ⟨mf12,rfl,h⟩:=Zau hf12 h
 dsimp only at h ⊢
 refine Zac ?_
 refine rg ?_
 refine lM csS p0.members ?_
 refine cS h rfl (fun h=>?_) fun h=>?_
 ·refine bl ?_
  refine rg ?_
  refine aI csS h fun e179 h=>?_
  refine jL h (fun x187=>mkS [(1,.str p1),(2,.sl (List.map csS p2)),(3,.ptr 3 (1,3) 0),(7,.int .i64 x130),(43,.bool x187)] [(3,some ((1,3),.box (Group.cs p0)))] 2) (fun k14 h=>?_) fun x187 h=>?_
  ·refine rg ?_
   refine aC h (ZeJ _) fun r188 h=>?_
   refine kS 23 h rfl (fun h=>?_) fun h=>?_
   ·refine kS 28 h rfl (fun h=>?_) fun h=>?_
    ·iterate 14 refine ZY rfl (Zac ?_)
     exact jn true h (sR [(3,1,3)])
    refine kS 32 h rfl (fun h=>?_) fun h=>?_
    ·refine aS h fun c189 h=>?_
     refine kS 37 h rfl (fun h=>?_) fun h=>?_
     ·refine sS h fun l190 h=>?_
      refine aC h (ZhA _ _) fun r191 h=>?_
      exact jn r191 h (sR [(3,1,3)])
     iterate 4 refine ZY rfl (Zac ?_)
     exact jn false h (sR [(3,1,3)])
    iterate 7 refine ZY rfl (Zac ?_)
    exact jn false h (sR [(3,1,3)])
   iterate 3 refine ZY rfl (Zac ?_)
   refine kS 32 h rfl (fun h=>?_) fun h=>?_
   ·refine aS h fun c192 h=>?_
    refine kS 37 h rfl (fun h=>?_) fun h=>?_
    ·refine sS h fun l193 h=>?_
     refine aC h (ZhA _ _) fun r194 h=>?_
     exact jn r194 h (sR [(3,1,3)])
    iterate 4 refine ZY rfl (Zac ?_)
    exact jn false h (sR [(3,1,3)])
   iterate 7 refine ZY rfl (Zac ?_)
   exact jn false h (sR [(3,1,3)])
  refine cS h rfl (fun h=>?_) fun h=>?_
  ·refine rg ?_
   cases h
   exact rQ
  refine rg ?_
  exact rn (mf12,(w64 (x130+1))) h (sR [(3,1,3)])
 refine rg ?_
 cases h
 exact rQ
def ZcE (p0:Policy) (p1:ByteArray):Option (List ByteArray):=
 (ZcF p1).bind fun r1=>
 letk (fun (x3:List ByteArray)=>
  Zbf Zdy (fun f23 ((x122,x123):(List ByteArray)×Int)=>
   if (decide (x123<(x122.length:Int))) then
    Zbf Zdy (fun f26 ((x162,x163):(List ByteArray)×Int)=>
     if (decide (x163<(p0.groups.length:Int))) then
      letk (fun (x177:List ByteArray)=>
       f26 (x177,(w64 (x163+1)))) fun k27=>
      (atI p0.groups x163).bind fun e178=>
      (Zck e178 p1 x162).bind fun r179=>
      if r179 then
       (atI p0.groups x163).bind fun e180=>
       (ZdS x162 e180.name).bind fun r181=>
       k27 r181
      else
      k27 x162
     else
     f23 (x162,(x122.length:Int))) (x122,0)
   else
   (some x122:Option (List ByteArray))) (x3,(-1))) fun k1=>
 if r1 then
  (ZdS [(⟨#[97,108,108]⟩:ByteArray)] (⟨#[117,115,101,114,115]⟩:ByteArray)).bind fun r182=>
  k1 r182
 else
 k1 [(⟨#[97,108,108]⟩:ByteArray)]
theorem Zhy (p0:Policy) (p1:ByteArray) (r:List ByteArray) (h:ZcE p0 p1=some r):ZH Tryz.prog 24 [p0.pv,.str p1] (.sl (List.map csS r)):=by
 refine cF (fun r=>.sl (List.map csS r)) h mix Tryz.func24 fun r h=>?_
 unfold ZcE at h
 refine Zac ?_
 refine rg ?_
 refine rg ?_
 refine bM csS ([(⟨#[97,108,108]⟩:ByteArray)]:List ByteArray) ?_
 refine rg ?_
 refine aC h (ZeJ _) fun r1 h=>?_
 refine jL h (fun x3=>mkS [(1,.str p1),(2,.ptr 2 (1,2) 0),(5,.sl (List.map csS x3))] [(2,some ((1,2),.box (Policy.cs p0)))] 2) (fun k1 h=>?_) fun x3 h=>?_
 ·refine cS h rfl (fun h=>?_) fun h=>?_
  ·refine rg ?_
   refine aC h (Zhx _ _) fun r182 h=>?_
   exact jn r182 h (sR [(2,1,0)])
  exact jn [(⟨#[97,108,108]⟩:ByteArray)] h (Shift.trans (Zj2 5 rfl rfl) (sR [(2,1,0)]))
 refine rg ?_
 refine bl ?_
 refine Zat h fun f23 mf23 hf23 h=>?_
 refine Zah (α:=Nat×((List ByteArray)×Int)) (fun a _=>mkS [(1,.str p1),(2,.ptr 2 (1,2) 0),(5,.sl (List.map csS a.2.1)),(6,.int .i64 a.2.2)] [(2,some ((1,2),.box (Policy.cs p0)))] 2) (fun a=>Zbf a.1 f23 a.2=some r) (fun a=>a.1) (mf23,x3,(-1)) 2 h (sR [(2,1,2)]) (fun a _ h=>?_)
 obtain ⟨mf23,x122,x123⟩:=a
 obtain ⟨mf23,rfl,h⟩:=Zau hf23 h
 dsimp only at h ⊢
 refine Zac ?_
 refine rg ?_
 refine lM csS x122 ?_
 refine cS h rfl (fun h=>?_) fun h=>?_
 ·refine bl ?_
  refine rg ?_
  refine lM csS x122 ?_
  refine rg ?_
  refine bl ?_
  refine Zat h fun f26 mf26 hf26 h=>?_
  refine Zah (α:=Nat×((List ByteArray)×Int)) (fun a _=>mkS [(1,.str p1),(2,.ptr 2 (1,2) 0),(5,.sl (List.map csS a.2.1)),(6,.int .i64 (x122.length:Int)),(7,.int .i64 a.2.2)] [(2,some ((1,2),.box (Policy.cs p0)))] 2) (fun a=>Zbf a.1 f26 a.2=some r) (fun a=>a.1) (mf26,x122,0) 2 h (sR [(2,1,2)]) (fun a _ h=>?_)
  obtain ⟨mf26,x162,x163⟩:=a
  obtain ⟨mf26,rfl,h⟩:=Zau hf26 h
  dsimp only at h ⊢
  refine Zac ?_
  refine rg ?_
  refine lM Group.cs p0.groups ?_
  refine cS h rfl (fun h=>?_) fun h=>?_
  ·refine jL h (fun x177=>mkS [(1,.str p1),(2,.ptr 2 (1,2) 0),(5,.sl (List.map csS x177)),(6,.int .i64 (x122.length:Int)),(7,.int .i64 x163)] [(2,some ((1,2),.box (Policy.cs p0)))] 2) (fun k27 h=>?_) fun x177 h=>?_
   ·refine bl ?_
    refine rg ?_
    refine aI Group.cs h fun e178 h=>?_
    refine aC h (ZgH _ _ _) fun r179 h=>?_
    refine cS h rfl (fun h=>?_) fun h=>?_
    ·refine rg ?_
     refine aI Group.cs h fun e180 h=>?_
     refine aC h (Zhx _ _) fun r181 h=>?_
     exact jn r181 h (sR [(2,1,2)])
    exact jn x162 h (sR [(2,1,2)])
   refine rg ?_
   exact rn (mf26,x177,(w64 (x163+1))) h (sR [(2,1,2)])
  exact rn (mf23,x162,(x122.length:Int)) h (sR [(2,1,2)])
 refine rg ?_
 cases h
 exact rQ
end Go.Proofs.YtpffimahajgiaaaGreatDoor
