/- Functions of the program as Lean functions. Written by fxgen.py. | Count of a byte, Join, FieldsFunc at blanks, a title's prefix, as the others are written. -/
import Derived.Test.YtjoneoobolnnbaaGreatDoorCF03
import Derived.Test.YtjoneoobolnnbaaGreatDoorCF04
import Derived.Test.YtjoneoobolnnbaaGreatDoorCF11
set_option linter.unusedVariables false
set_option maxHeartbeats 4000000
set_option maxRecDepth 100000
namespace Go.Proofs.YtjoneoobolnnbaaGreatDoor
open VL
def Zc7 (p0:Int):Option Bool:=
 letk (fun (x1:Bool)=>
  (some x1:Option Bool)) fun k1=>
 if (decide (p0=32)) then
  k1 true
 else
 k1 (decide (p0=9))
theorem ZiM (p0:Int) (r:Bool) (hF:Zc7 p0=some r):Zb Tryz.prog 240 [.int .i32 p0] (.bool r):=by
 refine cF (fun r=>.bool r) hF mix Tryz.func240 fun r hF=>?_
 unfold Zc7 at hF
 refine Za ?_
 refine rg ?_
 refine jL hF (fun x1=>mkS [(2,.bool x1)] [] 2) (fun k1 hF=>?_) fun x1 hF=>?_
 ·refine rg ?_
  refine kS 5 hF rfl (fun hF=>?_) fun hF=>?_
  ·iterate 2 refine Zh rfl (Za ?_)
   exact jn true hF (sR [])
  exact jn (decide (p0=9)) hF (sR [])
 cases hF
 exact rQ
def Ze6:Option (List ByteArray):=
 (some [(⟨#[114,101,97,100]⟩:ByteArray),(⟨#[101,100,105,116]⟩:ByteArray),(⟨#[109,111,118,101]⟩:ByteArray),(⟨#[100,101,108,101,116,101]⟩:ByteArray),(⟨#[114,101,118,105,101,119]⟩:ByteArray)]:Option (List ByteArray))
theorem Zji  (r:List ByteArray) (hF:Ze6=some r):Zb Tryz.prog 241 [] (.sl (List.map csS r)):=by
 refine cF (fun r=>.sl (List.map csS r)) hF mix Tryz.func241 fun r hF=>?_
 unfold Ze6 at hF
 refine Za ?_
 refine rg ?_
 refine rg ?_
 refine Zw (M:=([(⟨#[114,101,97,100]⟩:ByteArray),(⟨#[101,100,105,116]⟩:ByteArray),(⟨#[109,111,118,101]⟩:ByteArray),(⟨#[100,101,108,101,116,101]⟩:ByteArray),(⟨#[114,101,118,105,101,119]⟩:ByteArray)]:List ByteArray)) (f:=csS) rfl rfl rfl rfl (Nat.le_of_ble_eq_true rfl) rfl (Za ?_)
 cases hF
 exact rQ
def Zbi (p0:List ByteArray) (p1:ByteArray):Option Int:=
 ZK Zax (fun f2 (x10:Int)=>
  if (decide (x10<(p0.length:Int))) then
   (atI p0 x10).bind fun e14=>
   if (decide (p1=e14)) then
    (some x10:Option Int)
   else
   f2 (w64 (x10+1))
  else
  (some (-1):Option Int)) 0
theorem Zde (p0:List ByteArray) (p1:ByteArray) (r:Int) (hF:Zbi p0 p1=some r):Zb Tryz.prog 164 [.sl (List.map csS p0),.str p1] (.int .i64 r):=by
 refine cF (fun r=>.int .i64 r) hF mix Tryz.func164 fun r hF=>?_
 unfold Zbi at hF
 refine Za ?_
 refine rg ?_
 refine rg ?_
 refine Zr rfl (M:=p0) (f:=csS) rfl (Za ?_)
 refine bl ?_
 refine Zn hF fun f2 mf2 hf2 hF=>?_
 refine Zl (α:=Nat×Int) (fun a _=>mkS [(0,.sl (List.map csS p0)),(1,.str p1),(7,.int .i64 (p0.length:Int)),(8,.int .i64 a.2)] [] 2) (fun a=>ZK a.1 f2 a.2=some r) (fun a=>a.1) (mf2,0) 2 hF (sR []) (fun a _ hF=>?_)
 obtain ⟨mf2,x10⟩:=a
 obtain ⟨mf2,rfl,hF⟩:=Zo hf2 hF
 dsimp only at hF ⊢
 refine Za ?_
 refine rg ?_
 refine cS hF rfl (fun hF=>?_) fun hF=>?_
 ·refine bl ?_
  refine rg ?_
  refine rg ?_
  obtain ⟨e14,h12,hF⟩:=bnd hF
  refine Zk (f:=csS) rfl h12 rfl rfl rfl (Za ?_)
  refine cS hF rfl (fun hF=>?_) fun hF=>?_
  ·refine rg ?_
   cases hF
   exact rQ
  refine rg ?_
  exact rn (mf2,(w64 (x10+1))) hF (sR [])
 refine rg ?_
 cases hF
 exact rQ
def Ze7:Option (List ByteArray):=
 (some [(⟨#[60,77,97,105,110,62]⟩:ByteArray),(⟨#[60,84,97,108,107,62]⟩:ByteArray),(⟨#[60,85,115,101,114,62]⟩:ByteArray),(⟨#[60,84,101,109,112,108,97,116,101,62]⟩:ByteArray),(⟨#[60,67,97,116,101,103,111,114,121,62]⟩:ByteArray),(⟨#[60,80,114,111,106,101,99,116,62]⟩:ByteArray)]:Option (List ByteArray))
theorem Zjj  (r:List ByteArray) (hF:Ze7=some r):Zb Tryz.prog 242 [] (.sl (List.map csS r)):=by
 refine cF (fun r=>.sl (List.map csS r)) hF mix Tryz.func242 fun r hF=>?_
 unfold Ze7 at hF
 refine Za ?_
 refine rg ?_
 refine rg ?_
 refine Zw (M:=([(⟨#[60,77,97,105,110,62]⟩:ByteArray),(⟨#[60,84,97,108,107,62]⟩:ByteArray),(⟨#[60,85,115,101,114,62]⟩:ByteArray),(⟨#[60,84,101,109,112,108,97,116,101,62]⟩:ByteArray),(⟨#[60,67,97,116,101,103,111,114,121,62]⟩:ByteArray),(⟨#[60,80,114,111,106,101,99,116,62]⟩:ByteArray)]:List ByteArray)) (f:=csS) rfl rfl rfl rfl (Nat.le_of_ble_eq_true rfl) rfl (Za ?_)
 cases hF
 exact rQ
def Zc8 (p0:ByteArray):Option Bool:=
 letk (fun (x1:Bool)=>
  (some x1:Option Bool)) fun k1=>
 if (decide (p0=(⟨#[97,108,108]⟩:ByteArray))) then
  k1 true
 else
 k1 (decide (p0=(⟨#[117,115,101,114,115]⟩:ByteArray)))
theorem Zfw (p0:ByteArray) (r:Bool) (hF:Zc8 p0=some r):Zb Tryz.prog 244 [.str p0] (.bool r):=by
 refine cF (fun r=>.bool r) hF mix Tryz.func244 fun r hF=>?_
 unfold Zc8 at hF
 refine Za ?_
 refine rg ?_
 refine jL hF (fun x1=>mkS [(2,.bool x1)] [] 2) (fun k1 hF=>?_) fun x1 hF=>?_
 ·refine rg ?_
  refine kS 5 hF rfl (fun hF=>?_) fun hF=>?_
  ·iterate 2 refine Zh rfl (Za ?_)
   exact jn true hF (sR [])
  exact jn (decide (p0=(⟨#[117,115,101,114,115]⟩:ByteArray))) hF (sR [])
 cases hF
 exact rQ
def Zbj (p0:Group) (p1:Group):Option Bool:=
 (some (decide (p0.name=p1.name)):Option Bool)
theorem ZfK (p0:Group) (p1:Group) (r:Bool) (hF:Zbj p0 p1=some r):Zb Tryz.prog 246 [p0.pv,.cel [.str p1.name,.sl (List.map csS p1.members)]] (.bool r):=by
 refine cF (fun r=>.bool r) hF mix Tryz.func246 fun r hF=>?_
 unfold Zbj at hF
 refine Za ?_
 refine rg ?_
 refine rg ?_
 cases hF
 exact rQ
def Zbx (p0:List Group) (qf1:Group→Option Bool):Option Int:=
 ZK Zax (fun f2 (x18:Int)=>
  if (decide (x18<(p0.length:Int))) then
   (atI p0 x18).bind fun e25=>
   (qf1 e25).bind fun r26=>
   if r26 then
    (some x18:Option Int)
   else
   f2 (w64 (x18+1))
  else
  (some (-1):Option Int)) 0
theorem ZeH (p0:List Group) (qf1:Group→Option Bool) (fv1:Nat) (Lv1:List (List PV)) (hq1:∀ (y0:Group) (r:Bool),qf1 y0=some r→Zb Tryz.prog fv1 ([y0.pv]++Lv1.map .cel) (.bool r)) (r:Int) (hF:Zbx p0 qf1=some r):Zb Tryz.prog 278 [.sl (List.map Group.cs p0),.fn fv1 (Lv1.map .cel)] (.int .i64 r):=by
 refine cF (fun r=>.int .i64 r) hF mix Tryz.func278 fun r hF=>?_
 unfold Zbx at hF
 refine Za ?_
 refine rg ?_
 refine rg ?_
 refine Zr rfl (M:=p0) (f:=Group.cs) rfl (Za ?_)
 refine bl ?_
 refine Zn hF fun f2 mf2 hf2 hF=>?_
 refine Zl (α:=Nat×Int) (fun a _=>mkS [(0,.sl (List.map Group.cs p0)),(1,.fn fv1 (Lv1.map .cel)),(7,.int .i64 (p0.length:Int)),(8,.int .i64 a.2)] [] 2) (fun a=>ZK a.1 f2 a.2=some r) (fun a=>a.1) (mf2,0) 2 hF (Zv [] ⟨rfl,ZhE _ _ _,rfl,rfl,trivial⟩ trivial rfl) (fun a _ hF=>?_)
 obtain ⟨mf2,x18⟩:=a
 obtain ⟨mf2,rfl,hF⟩:=Zo hf2 hF
 dsimp only at hF ⊢
 refine Za ?_
 refine rg ?_
 refine cS hF rfl (fun hF=>?_) fun hF=>?_
 ·refine bl ?_
  refine rg ?_
  refine rg ?_
  obtain ⟨e25,h23,hF⟩:=bnd hF
  refine Zk (f:=Group.cs) rfl h23 rfl rfl rfl (Za ?_)
  obtain ⟨r26,h24,hF⟩:=bnd hF
  refine Zfa (args1:=[e25.pv]) (hq1 e25 _ h24) rfl rfl rfl rfl (Za ?_)
  refine cS hF rfl (fun hF=>?_) fun hF=>?_
  ·refine rg ?_
   cases hF
   exact rQ
  refine rg ?_
  exact rn (mf2,(w64 (x18+1))) hF (Zv [] ⟨rfl,ZhE _ _ _,rfl,rfl,trivial⟩ trivial rfl)
 refine rg ?_
 cases hF
 exact rQ
def Zay (p0:List Group) (qf1:Group→Option Bool):Option Bool:=
 (Zbx p0 qf1).bind fun r1=>
 (some (decide (0≤r1)):Option Bool)
theorem ZbE (p0:List Group) (qf1:Group→Option Bool) (fv1:Nat) (Lv1:List (List PV)) (hq1:∀ (y0:Group) (r:Bool),qf1 y0=some r→Zb Tryz.prog fv1 ([y0.pv]++Lv1.map .cel) (.bool r)) (r:Bool) (hF:Zay p0 qf1=some r):Zb Tryz.prog 245 [.sl (List.map Group.cs p0),.fn fv1 (Lv1.map .cel)] (.bool r):=by
 refine cF (fun r=>.bool r) hF mix Tryz.func245 fun r hF=>?_
 unfold Zay at hF
 refine Za ?_
 refine rg ?_
 refine rg ?_
 obtain ⟨r1,h1,hF⟩:=bnd hF
 refine ZqI (pre:=[.sl (List.map Group.cs p0)]) (pre':=[.sl (List.map Group.cs p0)]) (ZeH _ qf1 fv1 Lv1 hq1 _ h1) rfl rfl rfl rfl (Za ?_)
 cases hF
 exact rQ
def Zct (p0:Group) (p1:ByteArray):Option Bool:=
 (some (decide (p0.name=p1)):Option Bool)
theorem ZhX (p0:Group) (p1:ByteArray) (r:Bool) (hF:Zct p0 p1=some r):Zb Tryz.prog 280 [p0.pv,.cel [.str p1]] (.bool r):=by
 refine cF (fun r=>.bool r) hF mix Tryz.func280 fun r hF=>?_
 unfold Zct at hF
 refine Za ?_
 refine rg ?_
 refine rg ?_
 cases hF
 exact rQ
def Zcu (p0:Policy) (p1:ByteArray):Option Bool:=
 letk (fun (x3:Bool)=>
  (some x3:Option Bool)) fun k1=>
 (Zc8 p1).bind fun r4=>
 if r4 then
  k1 true
 else
 (Zay p0.groups (fun y0=>Zct y0 p1)).bind fun r5=>
 k1 r5
theorem ZdU (p0:Policy) (p1:ByteArray) (r:Bool) (hF:Zcu p0 p1=some r):Zb Tryz.prog 248 [p0.pv,.str p1] (.bool r):=by
 refine cF (fun r=>.bool r) hF mix Tryz.func248 fun r hF=>?_
 unfold Zcu at hF
 refine Za ?_
 refine rg ?_
 refine jL hF (fun x3=>mkS [(4,.bool x3)] [] 2) (fun k1 hF=>?_) fun x3 hF=>?_
 ·refine rg ?_
  obtain ⟨r4,h3,hF⟩:=bnd hF
  refine Zf (Zfw _ _ h3) rfl rfl (Za ?_)
  refine kS 7 hF rfl (fun hF=>?_) fun hF=>?_
  ·iterate 4 refine Zh rfl (Za ?_)
   exact jn true hF (sR [])
  refine Zh0 rfl rfl (Za ?_)
  obtain ⟨r5,h4,hF⟩:=bnd hF
  refine Zej (ZbE _ (fun y0=>Zct y0 p1) 280 [[.str p1]] (fun y0 r h=>ZhX y0 p1 r h) _ h4) rfl rfl rfl (Za ?_)
  exact jn r5 hF (sR [])
 cases hF
 exact rQ
def Zbk (p0:List ByteArray) (qf1:ByteArray→Option Bool):Option Int:=
 ZK Zax (fun f2 (x18:Int)=>
  if (decide (x18<(p0.length:Int))) then
   (atI p0 x18).bind fun e25=>
   (qf1 e25).bind fun r26=>
   if r26 then
    (some x18:Option Int)
   else
   f2 (w64 (x18+1))
  else
  (some (-1):Option Int)) 0
theorem Zet (p0:List ByteArray) (qf1:ByteArray→Option Bool) (fv1:Nat) (Lv1:List (List PV)) (hq1:∀ (y0:ByteArray) (r:Bool),qf1 y0=some r→Zb Tryz.prog fv1 ([.str y0]++Lv1.map .cel) (.bool r)) (r:Int) (hF:Zbk p0 qf1=some r):Zb Tryz.prog 165 [.sl (List.map csS p0),.fn fv1 (Lv1.map .cel)] (.int .i64 r):=by
 refine cF (fun r=>.int .i64 r) hF mix Tryz.func165 fun r hF=>?_
 unfold Zbk at hF
 refine Za ?_
 refine rg ?_
 refine rg ?_
 refine Zr rfl (M:=p0) (f:=csS) rfl (Za ?_)
 refine bl ?_
 refine Zn hF fun f2 mf2 hf2 hF=>?_
 refine Zl (α:=Nat×Int) (fun a _=>mkS [(0,.sl (List.map csS p0)),(1,.fn fv1 (Lv1.map .cel)),(7,.int .i64 (p0.length:Int)),(8,.int .i64 a.2)] [] 2) (fun a=>ZK a.1 f2 a.2=some r) (fun a=>a.1) (mf2,0) 2 hF (Zv [] ⟨rfl,ZhE _ _ _,rfl,rfl,trivial⟩ trivial rfl) (fun a _ hF=>?_)
 obtain ⟨mf2,x18⟩:=a
 obtain ⟨mf2,rfl,hF⟩:=Zo hf2 hF
 dsimp only at hF ⊢
 refine Za ?_
 refine rg ?_
 refine cS hF rfl (fun hF=>?_) fun hF=>?_
 ·refine bl ?_
  refine rg ?_
  refine rg ?_
  obtain ⟨e25,h23,hF⟩:=bnd hF
  refine Zk (f:=csS) rfl h23 rfl rfl rfl (Za ?_)
  obtain ⟨r26,h24,hF⟩:=bnd hF
  refine Zfa (args1:=[.str e25]) (hq1 e25 _ h24) rfl rfl rfl rfl (Za ?_)
  refine cS hF rfl (fun hF=>?_) fun hF=>?_
  ·refine rg ?_
   cases hF
   exact rQ
  refine rg ?_
  exact rn (mf2,(w64 (x18+1))) hF (Zv [] ⟨rfl,ZhE _ _ _,rfl,rfl,trivial⟩ trivial rfl)
 refine rg ?_
 cases hF
 exact rQ
def Za3 (p0:List ByteArray) (qf1:ByteArray→Option Bool):Option Bool:=
 (Zbk p0 qf1).bind fun r1=>
 (some (decide (0≤r1)):Option Bool)
theorem Zdz (p0:List ByteArray) (qf1:ByteArray→Option Bool) (fv1:Nat) (Lv1:List (List PV)) (hq1:∀ (y0:ByteArray) (r:Bool),qf1 y0=some r→Zb Tryz.prog fv1 ([.str y0]++Lv1.map .cel) (.bool r)) (r:Bool) (hF:Za3 p0 qf1=some r):Zb Tryz.prog 109 [.sl (List.map csS p0),.fn fv1 (Lv1.map .cel)] (.bool r):=by
 refine cF (fun r=>.bool r) hF mix Tryz.func109 fun r hF=>?_
 unfold Za3 at hF
 refine Za ?_
 refine rg ?_
 refine rg ?_
 obtain ⟨r1,h1,hF⟩:=bnd hF
 refine ZqI (pre:=[.sl (List.map csS p0)]) (pre':=[.sl (List.map csS p0)]) (Zet _ qf1 fv1 Lv1 hq1 _ h1) rfl rfl rfl rfl (Za ?_)
 cases hF
 exact rQ
end Go.Proofs.YtjoneoobolnnbaaGreatDoor
namespace Go.Proofs.YtjoneoobolnnbaaGreatDoor
open VL Go.RowKit
def Ze0 (s c:ByteArray):Option Int:=match c.data.toList with
 | [b]=>some (Lib.countByte s.data.toList b)
 | _=>none
theorem Zi9 (s c:ByteArray) (r:Int) (h:Ze0 s c=some r):Zb Tryz.prog 197 [.str s,.str c] (.int .i64 r):=by
 unfold Ze0 at h
 split at h
 ·rename_i b hb
  cases h
  obtain rfl:c=⟨#[b]⟩:=by
   obtain ⟨⟨l⟩⟩:=c
   exact congrArg (fun l:List UInt8=>(⟨⟨l⟩⟩:ByteArray)) hb
  exact Zak (vals:=[.string s,.string ⟨#[b]⟩]) (by kernel_rfl) rfl rfl (fun x=>.int _ _) fun w _=>(Tryz.strings_Count_one s b w).mono fun e w' ⟨e1,e2⟩=>⟨e1,e2 ▸ Below.refl _ _⟩
 ·cases h
def strings_Join (L:List ByteArray) (s:ByteArray):Option ByteArray:=
 if (0<L.length∧L.length≤140737488355328)∧(Lib.join (L.map (·.data.toList)) s.data.toList).length≤140737488355328 then some ⟨(Lib.join (L.map (·.data.toList)) s.data.toList).toArray⟩ else none
theorem Zkl (L:List ByteArray) (s:ByteArray) (r:ByteArray) (h:strings_Join L s=some r):Zb Tryz.prog 291 [.sl (List.map csS L),.str s] (.str r):=by
 unfold strings_Join at h
 split at h
 ·rename_i hc
  cases h
  refine Zex (by kernel_rfl) rfl (fun x=>.str _) fun x vs hp _=>?_
  obtain ⟨v,w,rfl,h1,h2⟩:=args2 hp
  obtain rfl:=ZnF h2
  obtain ⟨A,n,c,rfl,hS⟩:=Zjz hp.flt h1
  obtain ⟨q1,q2,q3,q4⟩:=hS
  obtain ⟨b,off,css,hA,_,hlt,hx⟩:=q4 (by omega)
  subst hA
  subst q1
  refine Tryz.strings_Join b off c L s x.W (fun j y hy=>?_) hlt hc.1.2 q2 hc.2
  obtain ⟨p1,p2⟩:=hx j y hy
  have e1:css j = [.string y]:=p1
  have:=p2 0 (.string y) (by rw [e1];rfl)
  rw [show off+j=off+j * Enc.k ByteArray+0 by show off+j=off+j * 1+0;omega]
  exact this
 ·cases h
def ZkB (n:Nat):Bool:=decide ((n:Int)=32)||decide ((n:Int)=9)
def Zcr (s:ByteArray):Option (List ByteArray):=if s.size≤4294967296∧(Lib.goFieldsP ZkB s).length≤9223372036854775807 then some (Lib.goFieldsP ZkB s) else none
theorem Zr0 {f:FuncId} (h:VL.isGo Tryz.prog f=true) (args:Array Value) (w:World):(callFunc f args).run Tryz.prog w = .ok (.enter f args) w:=by
 unfold VL.isGo at h
 split at h
 ·rename_i fn hfn
  simp only [Bool.and_eq_true,bne_iff_ne,ne_eq] at h
  obtain ⟨h1,h2⟩:=h
  obtain ⟨b,hb⟩:=Option.isSome_iff_exists.1 h2
  simp [callFunc,hfn,h1,hb]
 ·cases h
theorem Znh (w:World) (hI:∀ W,Below w.heap.size w W→WInv.I Tryz.prog W):PredGrows Tryz.prog 240 #[] ZkB w:=fun W x hx hb=>by
 have hc:Zc7 (x:Int)=some (ZkB x):=by
  unfold Zc7 letk ZkB
  dsimp only
  by_cases h:(x:Int)=32
  ·rw [if_pos (decide_eq_true h),decide_eq_true h];rfl
  ·rw [if_neg (by simpa using h),decide_eq_false h];rfl
 refine ZkL (ZiM x _ hc) (vs:=#[encR x] ++ #[]) rfl (fun i p v hp hv=>?_) fun w' hw=>hI w' (hb.trans (hw.mono hb.size))
 match i,hp,hv with
 | 0,hp,hv=>injection hp with hp;injection hv with hv;subst hp hv;exact .int _ _
 | i+1,hp,_=>simp at hp
theorem ZgE (s:ByteArray) (r:List ByteArray) (h:Zcr s=some r):ContractN Tryz.prog 239 [.str s,.fn 240 []] (.row 9 1 false (List.map csS r)):=by
 unfold Zcr at h
 split at h
 ·rename_i hc
  injection h with h
  subst h
  refine ZgR (α:=ByteArray) (vals:=[.string s,.func (.func 240) #[] #[]]) (enc:=fun x=>[.string x]) (by kernel_rfl) (fun x vs hp=>?_) (fun x=>rfl) (fun S w x cs h=>h) (fun x=>rfl) fun w hw=>?_
  ·obtain ⟨v,w,rfl,h1,h2⟩:=args2 hp
   obtain rfl:=ZnF h1
   cases h2 with
   | fn _ _ cs hl hh=>
     have:cs = #[]:=Array.eq_empty_of_size_eq_zero hl.symm
     rw [this]
  ·refine (Tryz.strings_FieldsFunc_grows 240 #[] (Zr0 (by kernel_rfl)) ZkB s w hc.1 (Znh w hw)).mono ?_
   rintro e w' ⟨A,rfl,hA,hown,hb⟩
   exact ⟨_,rfl,OwnL.of_row hown,hb⟩
 ·cases h
def ZfH (s:ByteArray):Option (Int×ByteArray×Bool):=if s.size<4294967281 then (match ZbX s.data.toList with | some q=>some (q.1,⟨q.2.toArray⟩,true) | none=>some (0,⟨#[]⟩,false)) else none
theorem Zw1 {x:Ctx} (a:Int) (b:ByteArray) (c:Bool):Rep x (.tup [.int .i64 a,.str b,.bool c]) (.tuple #[.int .i64 a,.string b,.bool c]):=.tup _ _ rfl fun i p v hp hv=>by
 match i,hp,hv with
 | 0,hp,hv=>injection hp with hp;injection hv with hv;subst hp hv;exact .int _ _
 | 1,hp,hv=>injection hp with hp;injection hv with hv;subst hp hv;exact .str _
 | 2,hp,hv=>injection hp with hp;injection hv with hv;subst hp hv;exact .bool _
 | i+3,hp,_=>simp at hp
theorem Zkm (s:ByteArray) (r:Int×ByteArray×Bool) (h:ZfH s=some r):Zb Tryz.prog 101 [.str s] (.tup [.int .i64 r.1,.str r.2.1,.bool r.2.2]):=by
 unfold ZfH at h
 split at h
 ·rename_i hc
  have hv:Zh3 s.data.toList = .tuple #[.int .i64 r.1,.string r.2.1,.bool r.2.2]:=by
   unfold Zh3
   cases hp:ZbX s.data.toList with
   | none=>rw [hp] at h;injection h with h;subst h;rfl
   | some q=>rw [hp] at h;injection h with h;subst h;rfl
  exact Zak (vals:=[.string s]) (by kernel_rfl) rfl rfl (fun x=>Zw1 _ _ _) fun w hw=>by
   rw [← hv]
   exact Zh4 s w hc hw.1
 ·cases h
end Go.Proofs.YtjoneoobolnnbaaGreatDoor
