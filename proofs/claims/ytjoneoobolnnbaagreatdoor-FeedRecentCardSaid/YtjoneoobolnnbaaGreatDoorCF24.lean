/- Functions of the program as Lean functions. Written by fxgen.py. -/
import Derived.Test.YtjoneoobolnnbaaGreatDoorCF10
import Derived.Test.YtjoneoobolnnbaaGreatDoorCF23
import Derived.Test.YtjoneoobolnnbaaGreatDoorCF04
set_option linter.unusedVariables false
set_option maxHeartbeats 4000000
set_option maxRecDepth 100000
namespace Go.Proofs.YtjoneoobolnnbaaGreatDoor
open VL
def ZiZ (p0:ByteArray):Option (Title×Int):=
 (Zjd p0).bind fun r1=>
 letk (fun (x3:Bool)=>
  letk (fun (x5:ByteArray)=>
   (Zhb x5).bind fun r6=>
   letk (fun (x8:ByteArray)=>
    ZK Zax (fun f20 ((x87,x88):ByteArray×Int)=>
     if (decide (x88<(x8.size:Int))) then
      letk (fun (x123:ByteArray)=>
       f20 (x123,(w64 (x88+1)))) fun k22=>
      letk (fun (x128:Bool)=>
       if x128 then
        k22 x87
       else
       (ZfF x8 x88 (w64 (x88+1))).bind fun l129=>
       (Zl7 x87 l129).bind fun s130=>
       k22 s130) fun k23=>
      (atS x8 x88).bind fun c131=>
      if (decide (c131=32)) then
       if (decide (0<x88)) then
        (atS x8 (w64 (x88 - 1))).bind fun c132=>
        if (decide (c132=47)) then
         k23 true
        else
        if (decide ((w64 (x88+1))<(x8.size:Int))) then
         (atS x8 (w64 (x88+1))).bind fun c133=>
         k23 (decide (c133=47))
        else
        k23 false
       else
       if (decide ((w64 (x88+1))<(x8.size:Int))) then
        (atS x8 (w64 (x88+1))).bind fun c134=>
        k23 (decide (c134=47))
       else
       k23 false
      else
      k23 false
     else
     letk (fun (x137:Bool)=>
      letk (fun (x141:ByteArray)=>
       if (decide (100<(x141.size:Int))) then
        (some ((⟨0,(⟨#[]⟩:ByteArray)⟩:Title),3):Option (Title×Int))
       else
       (Zbc (⟨r6.1,x141⟩:Title)).bind fun r142=>
       if (!r142) then
        (some ((⟨0,(⟨#[]⟩:ByteArray)⟩:Title),1):Option (Title×Int))
       else
       (some ((⟨r6.1,x141⟩:Title),0):Option (Title×Int))) fun k25=>
      if x137 then
       (atS x87 0).bind fun c143=>
       (ZfF x87 1 (x87.size:Int)).bind fun l144=>
       (Zl7 (strOfNums [(IntKind.wrap .u8 (c143 - 32))]) l144).bind fun s145=>
       k25 s145
      else
      k25 x87) fun k24=>
     if (decide (0<(x87.size:Int))) then
      (atS x87 0).bind fun c146=>
      if (decide (97≤c146)) then
       (atS x87 0).bind fun c147=>
       k24 (decide (c147≤122))
      else
      k24 false
     else
     k24 false) ((⟨#[]⟩:ByteArray),0)) fun k3=>
   if (decide (0<r6.1)) then
    (ZoW x5 (w64 (r6.2+1))).bind fun r148=>
    k3 r148
   else
   k3 x5) fun k2=>
  if x3 then
   (ZoW r1 1).bind fun r149=>
   k2 r149
  else
  k2 r1) fun k1=>
 if (decide (0<(r1.size:Int))) then
  (atS r1 0).bind fun c150=>
  k1 (decide (c150=58))
 else
 k1 false
theorem ZkJ (p0:ByteArray) (r:Title×Int) (hF:ZiZ p0=some r):Zb Tryz.prog 228 [.str p0] (.tup [r.1.pv,.int .i64 r.2]):=by
 refine cF (fun r=>.tup [r.1.pv,.int .i64 r.2]) hF mix Tryz.func228 fun r hF=>?_
 unfold ZiZ at hF
 refine Za ?_
 refine rg ?_
 refine rg ?_
 obtain ⟨r1,h1,hF⟩:=bnd hF
 refine Zf (Znn _ _ h1) rfl rfl (Za ?_)
 refine jL hF (fun x3=>mkS [(0,.str r1),(2,.ptr 2 (1,2) 0),(18,.bool x3)] [(2,some ((1,2),.box [.int .i64 0,.str (⟨#[]⟩:ByteArray)]))] 2) (fun k1 hF=>?_) fun x3 hF=>?_
 ·refine rg ?_
  refine kS 14 hF rfl (fun hF=>?_) fun hF=>?_
  ·obtain ⟨c150,h123,hF⟩:=bnd hF
   refine ZI StrT.eq rfl h123 rfl rfl (Za ?_)
   exact jn (decide (c150=58)) hF (sR [(2,1,0)])
  iterate 3 refine Zh rfl (Za ?_)
  exact jn false hF (sR [(2,1,0)])
 refine jL hF (fun x5=>mkS [(0,.str x5),(2,.ptr 2 (1,2) 0)] [(2,some ((1,2),.box [.int .i64 0,.str (⟨#[]⟩:ByteArray)]))] 2) (fun k2 hF=>?_) fun x5 hF=>?_
 ·refine cS hF rfl (fun hF=>?_) fun hF=>?_
  ·refine rg ?_
   obtain ⟨r149,h122,hF⟩:=bnd hF
   refine Zf (ZoX _ _ _ h122) rfl rfl (Za ?_)
   exact jn r149 hF (sR [(2,1,2)])
  exact jn r1 hF (sR [(2,1,2)])
 refine rg ?_
 obtain ⟨r6,h4,hF⟩:=bnd hF
 refine Zf (ZlU _ _ h4) rfl rfl (Za ?_)
 refine rg ?_
 refine jL hF (fun x8=>mkS [(0,.str x8),(2,.ptr 2 (1,2) 0),(4,.int .i64 r6.1)] [(2,some ((1,2),.box [.int .i64 0,.str (⟨#[]⟩:ByteArray)]))] 2) (fun k3 hF=>?_) fun x8 hF=>?_
 ·refine cS hF rfl (fun hF=>?_) fun hF=>?_
  ·refine rg ?_
   obtain ⟨r148,h121,hF⟩:=bnd hF
   refine Zf (ZoX _ _ _ h121) rfl rfl (Za ?_)
   exact jn r148 hF (sR [(2,1,2)])
  exact jn x5 hF (sR [(2,1,2)])
 refine rg ?_
 refine rg ?_
 refine bl ?_
 refine Zn hF fun f20 mf20 hf20 hF=>?_
 refine Zl (α:=Nat×(ByteArray×Int)) (fun a _=>mkS [(0,.str x8),(2,.ptr 2 (1,2) 0),(4,.int .i64 r6.1),(6,.str a.2.1),(7,.int .i64 a.2.2)] [(2,some ((1,2),.box [.int .i64 0,.str (⟨#[]⟩:ByteArray)]))] 2) (fun a=>ZK a.1 f20 a.2=some r) (fun a=>a.1) (mf20,(⟨#[]⟩:ByteArray),0) 2 hF (sR [(2,1,2)]) (fun a _ hF=>?_)
 obtain ⟨mf20,x87,x88⟩:=a
 obtain ⟨mf20,rfl,hF⟩:=Zo hf20 hF
 dsimp only at hF ⊢
 refine Za ?_
 refine rg ?_
 refine cS hF rfl (fun hF=>?_) fun hF=>?_
 ·refine jL hF (fun x123=>mkS [(0,.str x8),(2,.ptr 2 (1,2) 0),(4,.int .i64 r6.1),(6,.str x123),(7,.int .i64 x88)] [(2,some ((1,2),.box [.int .i64 0,.str (⟨#[]⟩:ByteArray)]))] 2) (fun k22 hF=>?_) fun x123 hF=>?_
  ·refine bl ?_
   refine jL hF (fun x128=>mkS [(0,.str x8),(2,.ptr 2 (1,2) 0),(4,.int .i64 r6.1),(6,.str x87),(7,.int .i64 x88),(66,.bool x128)] [(2,some ((1,2),.box [.int .i64 0,.str (⟨#[]⟩:ByteArray)]))] 2) (fun k23 hF=>?_) fun x128 hF=>?_
   ·refine rg ?_
    obtain ⟨c131,h106,hF⟩:=bnd hF
    refine ZI StrT.eq rfl h106 rfl rfl (Za ?_)
    refine kS 42 hF rfl (fun hF=>?_) fun hF=>?_
    ·refine kS 45 hF rfl (fun hF=>?_) fun hF=>?_
     ·obtain ⟨c132,h107,hF⟩:=bnd hF
      refine ZI StrT.eq rfl h107 rfl rfl (Za ?_)
      refine kS 52 hF rfl (fun hF=>?_) fun hF=>?_
      ·iterate 12 refine Zh rfl (Za ?_)
       exact jn true hF (sR [(2,1,2)])
      refine kS 58 hF rfl (fun hF=>?_) fun hF=>?_
      ·obtain ⟨c133,h108,hF⟩:=bnd hF
       refine ZI StrT.eq rfl h108 rfl rfl (Za ?_)
       exact jn (decide (c133=47)) hF (sR [(2,1,2)])
      iterate 5 refine Zh rfl (Za ?_)
      exact jn false hF (sR [(2,1,2)])
     iterate 5 refine Zh rfl (Za ?_)
     refine kS 58 hF rfl (fun hF=>?_) fun hF=>?_
     ·obtain ⟨c134,h109,hF⟩:=bnd hF
      refine ZI StrT.eq rfl h109 rfl rfl (Za ?_)
      exact jn (decide (c134=47)) hF (sR [(2,1,2)])
     iterate 5 refine Zh rfl (Za ?_)
     exact jn false hF (sR [(2,1,2)])
    iterate 23 refine Zh rfl (Za ?_)
    exact jn false hF (sR [(2,1,2)])
   refine cS hF rfl (fun hF=>?_) fun hF=>?_
   ·exact jn x87 hF (sR [(2,1,2)])
   refine rg ?_
   obtain ⟨l129,h104,hF⟩:=bnd hF
   refine ZN StrT.eq rfl h104 rfl rfl rfl (Za ?_)
   obtain ⟨s130,h105,hF⟩:=bnd hF
   refine Zes rfl h105 rfl rfl (Za ?_)
   exact jn s130 hF (sR [(2,1,2)])
  refine rg ?_
  exact rn (mf20,x123,(w64 (x88+1))) hF (sR [(2,1,2)])
 refine jL hF (fun x137=>mkS [(2,.ptr 2 (1,2) 0),(4,.int .i64 r6.1),(6,.str x87),(86,.bool x137)] [(2,some ((1,2),.box [.int .i64 0,.str (⟨#[]⟩:ByteArray)]))] 2) (fun k24 hF=>?_) fun x137 hF=>?_
 ·refine rg ?_
  refine kS 77 hF rfl (fun hF=>?_) fun hF=>?_
  ·obtain ⟨c146,h119,hF⟩:=bnd hF
   refine ZI StrT.eq rfl h119 rfl rfl (Za ?_)
   refine kS 82 hF rfl (fun hF=>?_) fun hF=>?_
   ·obtain ⟨c147,h120,hF⟩:=bnd hF
    refine ZI StrT.eq rfl h120 rfl rfl (Za ?_)
    exact jn (decide (c147≤122)) hF (sR [(2,1,2)])
   iterate 3 refine Zh rfl (Za ?_)
   exact jn false hF (sR [(2,1,2)])
  iterate 6 refine Zh rfl (Za ?_)
  exact jn false hF (sR [(2,1,2)])
 refine jL hF (fun x141=>mkS [(2,.ptr 2 (1,2) 0),(4,.int .i64 r6.1),(6,.str x141)] [(2,some ((1,2),.box [.int .i64 0,.str (⟨#[]⟩:ByteArray)]))] 2) (fun k25 hF=>?_) fun x141 hF=>?_
 ·refine cS hF rfl (fun hF=>?_) fun hF=>?_
  ·refine rg ?_
   obtain ⟨c143,h116,hF⟩:=bnd hF
   refine ZI StrT.eq rfl h116 rfl rfl (Za ?_)
   refine Zw (M:=([(IntKind.wrap .u8 (c143 - 32))]:List Int)) (f:=csB) rfl rfl rfl rfl (Nat.le_of_ble_eq_true rfl) rfl (Za ?_)
   refine ZlK (l:=[(IntKind.wrap .u8 (c143 - 32))]) rfl rfl (Za ?_)
   obtain ⟨l144,h117,hF⟩:=bnd hF
   refine ZN StrT.eq rfl h117 rfl rfl rfl (Za ?_)
   obtain ⟨s145,h118,hF⟩:=bnd hF
   refine Zes rfl h118 rfl rfl (Za ?_)
   exact jn s145 hF (sR [(2,1,2)])
  exact jn x87 hF (sR [(2,1,2)])
 refine rg ?_
 refine cS hF rfl (fun hF=>?_) fun hF=>?_
 ·refine rg ?_
  cases hF
  exact rQ
 refine rg ?_
 refine rg ?_
 obtain ⟨r142,h115,hF⟩:=bnd hF
 refine Zf (Zbv _ _ h115) rfl rfl (Za ?_)
 refine cS hF rfl (fun hF=>?_) fun hF=>?_
 ·refine rg ?_
  cases hF
  exact rQ
 refine rg ?_
 cases hF
 exact rQ
def Zfc (p0:ByteArray):Option (Scope×Bool):=
 if (decide (p0=(⟨#[60,97,108,108,62]⟩:ByteArray))) then
  (some ((⟨1,(⟨0,(⟨#[]⟩:ByteArray)⟩:Title)⟩:Scope),true):Option (Scope×Bool))
 else
 ZK Zax (fun f2 (x10:Int)=>
  if (decide (x10<6)) then
   (Zfn x10).bind fun r14=>
   if (decide (p0=r14)) then
    (some ((⟨2,(⟨x10,(⟨#[]⟩:ByteArray)⟩:Title)⟩:Scope),true):Option (Scope×Bool))
   else
   f2 (w64 (x10+1))
  else
  (ZiZ p0).bind fun r15=>
  (some ((⟨3,r15.1⟩:Scope),(decide (r15.2=0))):Option (Scope×Bool))) 0
theorem Zjr (p0:ByteArray) (r:Scope×Bool) (hF:Zfc p0=some r):Zb Tryz.prog 188 [.str p0] (.tup [r.1.pv,.bool r.2]):=by
 refine cF (fun r=>.tup [r.1.pv,.bool r.2]) hF mix Tryz.func188 fun r hF=>?_
 unfold Zfc at hF
 refine Za ?_
 refine rg ?_
 refine rg ?_
 refine cS hF rfl (fun hF=>?_) fun hF=>?_
 ·refine rg ?_
  cases hF
  exact rQ
 refine rg ?_
 refine bl ?_
 refine Zn hF fun f2 mf2 hf2 hF=>?_
 refine Zl (α:=Nat×Int) (fun a _=>mkS [(0,.str p0),(2,.ptr 2 (1,2) 0),(4,.int .i64 a.2)] [(2,some ((1,2),.box [.int .i64 0,.int .i64 0,.str (⟨#[]⟩:ByteArray)]))] 2) (fun a=>ZK a.1 f2 a.2=some r) (fun a=>a.1) (mf2,0) 2 hF (sR [(2,1,0)]) (fun a _ hF=>?_)
 obtain ⟨mf2,x10⟩:=a
 obtain ⟨mf2,rfl,hF⟩:=Zo hf2 hF
 dsimp only at hF ⊢
 refine Za ?_
 refine rg ?_
 refine cS hF rfl (fun hF=>?_) fun hF=>?_
 ·refine bl ?_
  refine rg ?_
  obtain ⟨r14,h12,hF⟩:=bnd hF
  refine Zf (ZjY _ _ h12) rfl rfl (Za ?_)
  refine cS hF rfl (fun hF=>?_) fun hF=>?_
  ·refine rg ?_
   cases hF
   exact rQ
  refine rg ?_
  exact rn (mf2,(w64 (x10+1))) hF (sR [(2,1,2)])
 refine rg ?_
 obtain ⟨r15,h13,hF⟩:=bnd hF
 refine Zf (ZkJ _ _ h13) rfl rfl (Za ?_)
 refine rg ?_
 cases hF
 exact rQ
def Zfd (p0:ByteArray):Option (Title×ByteArray×Bool):=
 (Zgx p0 (⟨#[124]⟩:ByteArray) 0).bind fun r1=>
 letk (fun (x5:ByteArray) (x6:ByteArray)=>
  (Zha x5).bind fun r7=>
  (ZiZ r7).bind fun r8=>
  (some (r8.1,x6,(decide (r8.2=0))):Option (Title×ByteArray×Bool))) fun k1=>
 if (decide (0≤r1)) then
  (ZfF p0 (w64 (r1+1)) (p0.size:Int)).bind fun l9=>
  (Zha l9).bind fun r10=>
  if (decide (r10=(⟨#[]⟩:ByteArray))) then
   (some ((⟨0,(⟨#[]⟩:ByteArray)⟩:Title),(⟨#[]⟩:ByteArray),false):Option (Title×ByteArray×Bool))
  else
  (ZfF p0 0 r1).bind fun l11=>
  k1 l11 r10
 else
 k1 p0 (⟨#[]⟩:ByteArray)
theorem Zjs (p0:ByteArray) (r:Title×ByteArray×Bool) (hF:Zfd p0=some r):Zb Tryz.prog 190 [.str p0] (.tup [r.1.pv,.str r.2.1,.bool r.2.2]):=by
 refine cF (fun r=>.tup [r.1.pv,.str r.2.1,.bool r.2.2]) hF mix Tryz.func190 fun r hF=>?_
 unfold Zfd at hF
 refine Za ?_
 refine rg ?_
 refine rg ?_
 refine rg ?_
 obtain ⟨r1,h1,hF⟩:=bnd hF
 refine Zf (Zgy _ _ _ _ h1) rfl rfl (Za ?_)
 refine rg ?_
 refine Zar hF fun k1 hk1 hF=>?_
 refine ZaF (α:=ByteArray×ByteArray) (fun a _=>mkS [(0,.str a.1),(2,.ptr 2 (1,2) 0),(5,.str a.2)] [(2,some ((1,2),.box [.int .i64 0,.str (⟨#[]⟩:ByteArray)]))] 2) (fun a=>k1 a.1 a.2=some r) (Za ?_) (fun a _ hF=>?_)
 ·refine cS hF rfl (fun hF=>?_) fun hF=>?_
  ·refine rg ?_
   obtain ⟨l9,h7,hF⟩:=bnd hF
   refine ZN StrT.eq rfl h7 rfl rfl rfl (Za ?_)
   obtain ⟨r10,h8,hF⟩:=bnd hF
   refine Zf (Zf8 _ _ h8) rfl rfl (Za ?_)
   refine rg ?_
   refine cS hF rfl (fun hF=>?_) fun hF=>?_
   ·refine rg ?_
    cases hF
    exact rQ
   refine rg ?_
   obtain ⟨l11,h9,hF⟩:=bnd hF
   refine ZN StrT.eq rfl h9 rfl rfl rfl (Za ?_)
   exact jn (l11,r10) hF (sR [(2,1,0)])
  exact jn (p0,(⟨#[]⟩:ByteArray)) hF (sR [(2,1,0)])
 obtain ⟨x5,x6⟩:=a
 subst hk1
 dsimp only at hF ⊢
 refine Za ?_
 refine rg ?_
 obtain ⟨r7,h5,hF⟩:=bnd hF
 refine Zf (Zf8 _ _ h5) rfl rfl (Za ?_)
 obtain ⟨r8,h6,hF⟩:=bnd hF
 refine Zf (ZkJ _ _ h6) rfl rfl (Za ?_)
 refine rg ?_
 cases hF
 exact rQ
def Zjt (p0:List Group) (p1:Int):Option Int:=
 (atI p0 p1).bind fun e1=>
 (ZaG e1.name).bind fun r2=>
 if (!r2) then
  (some 1:Option Int)
 else
 (Zin p0 0 p1).bind fun l3=>
 (ZdI l3 e1.name).bind fun r4=>
 if r4 then
  (some 5:Option Int)
 else
 if (decide (24<(e1.members.length:Int))) then
  (some 3:Option Int)
 else
 ZK Zax (fun f17 (x110:Int)=>
  if (decide (x110<(e1.members.length:Int))) then
   letk (fun (_:Unit)=>
    f17 (w64 (x110+1))) fun k19=>
   (atI e1.members x110).bind fun e150=>
   letk (fun (x152:Bool)=>
    if x152 then
     (ZfF e150 1 (e150.size:Int)).bind fun l157=>
     (ZaG l157).bind fun r158=>
     if (!r158) then
      (some 1:Option Int)
     else
     (ZfF e150 1 (e150.size:Int)).bind fun l159=>
     (ZdI p0 l159).bind fun r160=>
     if (!r160) then
      (some 4:Option Int)
     else
     k19 ()
    else
    (ZaG e150).bind fun r161=>
    if (!r161) then
     (some 1:Option Int)
    else
    k19 ()) fun k20=>
   if (decide (0<(e150.size:Int))) then
    (atS e150 0).bind fun c162=>
    k20 (decide (c162=64))
   else
   k20 false
  else
  (some 0:Option Int)) 0
theorem ZnA (p0:List Group) (p1:Int) (r:Int) (hF:Zjt p0 p1=some r):Zb Tryz.prog 191 [.sl (List.map Group.cs p0),.int .i64 p1] (.int .i64 r):=by
 refine cF (fun r=>.int .i64 r) hF mix Tryz.func191 fun r hF=>?_
 unfold Zjt at hF
 refine Za ?_
 refine rg ?_
 refine rg ?_
 obtain ⟨e1,h1,hF⟩:=bnd hF
 refine Zk (f:=Group.cs) rfl h1 rfl rfl rfl (Za ?_)
 refine rg ?_
 obtain ⟨r2,h2,hF⟩:=bnd hF
 refine Zf (ZbH _ _ h2) rfl rfl (Za ?_)
 refine cS hF rfl (fun hF=>?_) fun hF=>?_
 ·refine rg ?_
  cases hF
  exact rQ
 refine rg ?_
 obtain ⟨l3,h3,hF⟩:=bnd hF
 refine Zbp (f:=Group.cs) rfl h3 (fun _=>rfl) rfl rfl rfl rfl (Za ?_)
 obtain ⟨r4,h4,hF⟩:=bnd hF
 refine Zf (Zef _ _ _ h4) rfl rfl (Za ?_)
 refine cS hF rfl (fun hF=>?_) fun hF=>?_
 ·refine rg ?_
  cases hF
  exact rQ
 refine rg ?_
 refine Zr rfl (M:=e1.members) (f:=csS) rfl (Za ?_)
 refine cS hF rfl (fun hF=>?_) fun hF=>?_
 ·refine rg ?_
  cases hF
  exact rQ
 refine rg ?_
 refine bl ?_
 refine Zn hF fun f17 mf17 hf17 hF=>?_
 refine Zl (α:=Nat×Int) (fun a _=>mkS [(0,.sl (List.map Group.cs p0)),(5,.ptr 5 (1,5) 0),(6,.int .i64 a.2)] [(5,some ((1,5),.box [.str e1.name,.sl (List.map csS e1.members)]))] 2) (fun a=>ZK a.1 f17 a.2=some r) (fun a=>a.1) (mf17,0) 2 hF (sR [(5,2,4)]) (fun a _ hF=>?_)
 obtain ⟨mf17,x110⟩:=a
 obtain ⟨mf17,rfl,hF⟩:=Zo hf17 hF
 dsimp only at hF ⊢
 refine Za ?_
 refine rg ?_
 refine Zr rfl (M:=e1.members) (f:=csS) rfl (Za ?_)
 refine cS hF rfl (fun hF=>?_) fun hF=>?_
 ·refine Zar hF fun k19 hk19 hF=>?_
  refine ZaF (α:=Unit) (fun _ _=>mkS [(0,.sl (List.map Group.cs p0)),(5,.ptr 5 (1,5) 0),(6,.int .i64 x110)] [(5,some ((1,5),.box [.str e1.name,.sl (List.map csS e1.members)]))] 2) (fun _=>k19 ()=some r) (Za ?_) (fun a _ hF=>?_)
  ·refine bl ?_
   refine rg ?_
   obtain ⟨e150,h137,hF⟩:=bnd hF
   refine Zk (f:=csS) rfl h137 rfl rfl rfl (Za ?_)
   refine jL hF (fun x152=>mkS [(0,.sl (List.map Group.cs p0)),(5,.ptr 5 (1,5) 0),(6,.int .i64 x110),(7,.str e150),(45,.bool x152)] [(5,some ((1,5),.box [.str e1.name,.sl (List.map csS e1.members)]))] 2) (fun k20 hF=>?_) fun x152 hF=>?_
   ·refine rg ?_
    refine kS 41 hF rfl (fun hF=>?_) fun hF=>?_
    ·obtain ⟨c162,h148,hF⟩:=bnd hF
     refine ZI StrT.eq rfl h148 rfl rfl (Za ?_)
     exact jn (decide (c162=64)) hF (sR [(5,1,5)])
    iterate 3 refine Zh rfl (Za ?_)
    exact jn false hF (sR [(5,1,5)])
   refine cS hF rfl (fun hF=>?_) fun hF=>?_
   ·refine rg ?_
    obtain ⟨l157,h143,hF⟩:=bnd hF
    refine ZN StrT.eq rfl h143 rfl rfl rfl (Za ?_)
    obtain ⟨r158,h144,hF⟩:=bnd hF
    refine Zf (ZbH _ _ h144) rfl rfl (Za ?_)
    refine cS hF rfl (fun hF=>?_) fun hF=>?_
    ·refine rg ?_
     cases hF
     exact rQ
    refine rg ?_
    obtain ⟨l159,h145,hF⟩:=bnd hF
    refine ZN StrT.eq rfl h145 rfl rfl rfl (Za ?_)
    obtain ⟨r160,h146,hF⟩:=bnd hF
    refine Zf (Zef _ _ _ h146) rfl rfl (Za ?_)
    refine cS hF rfl (fun hF=>?_) fun hF=>?_
    ·refine rg ?_
     cases hF
     exact rQ
    exact jn () hF (sR [(5,1,5)])
   refine rg ?_
   obtain ⟨r161,h147,hF⟩:=bnd hF
   refine Zf (ZbH _ _ h147) rfl rfl (Za ?_)
   refine cS hF rfl (fun hF=>?_) fun hF=>?_
   ·refine rg ?_
    cases hF
    exact rQ
   exact jn () hF (sR [(5,1,5)])
  subst hk19
  dsimp only at hF ⊢
  refine Za ?_
  refine rg ?_
  exact rn (mf17,(w64 (x110+1))) hF (sR [(5,1,5)])
 refine rg ?_
 cases hF
 exact rQ
def Zju (p0:Scope):Option Bool:=
 if (decide (p0.kind=1)) then
  (some (decide (p0.title=(⟨0,(⟨#[]⟩:ByteArray)⟩:Title))):Option Bool)
 else
 if (decide (p0.kind=2)) then
  letk (fun (x3:Bool)=>
   (some x3:Option Bool)) fun k2=>
  if (decide (0≤p0.title.space)) then
   if (decide (p0.title.space<6)) then
    k2 (decide (p0.title.name=(⟨#[]⟩:ByteArray)))
   else
   k2 false
  else
  k2 false
 else
 if (decide (p0.kind=3)) then
  (Zbc p0.title).bind fun r4=>
  (some r4:Option Bool)
 else
 (some false:Option Bool)
theorem ZnB (p0:Scope) (r:Bool) (hF:Zju p0=some r):Zb Tryz.prog 193 [p0.pv] (.bool r):=by
 refine cF (fun r=>.bool r) hF mix Tryz.func193 fun r hF=>?_
 unfold Zju at hF
 refine Za ?_
 refine rg ?_
 refine rg ?_
 refine bl ?_
 refine rg ?_
 refine cS hF rfl (fun hF=>?_) fun hF=>?_
 ·refine rg ?_
  refine Zeu (.inl rfl) rfl rfl rfl rfl rfl (fun W=>Zc9 p0.title (⟨0,(⟨#[]⟩:ByteArray)⟩:Title) W) (Za ?_)
  cases hF
  exact rQ
 refine rg ?_
 refine cS hF rfl (fun hF=>?_) fun hF=>?_
 ·refine jL hF (fun x3=>mkS [(2,.bool x3)] [] 2) (fun k2 hF=>?_) fun x3 hF=>?_
  ·refine rg ?_
   refine kS 17 hF rfl (fun hF=>?_) fun hF=>?_
   ·refine kS 23 hF rfl (fun hF=>?_) fun hF=>?_
    ·exact jn (decide (p0.title.name=(⟨#[]⟩:ByteArray))) hF (sR [])
    iterate 4 refine Zh rfl (Za ?_)
    exact jn false hF (sR [])
   iterate 8 refine Zh rfl (Za ?_)
   exact jn false hF (sR [])
  cases hF
  exact rQ
 refine rg ?_
 refine cS hF rfl (fun hF=>?_) fun hF=>?_
 ·refine rg ?_
  obtain ⟨r4,h2,hF⟩:=bnd hF
  refine Zf (Zbv _ _ h2) rfl rfl (Za ?_)
  cases hF
  exact rQ
 refine rg ?_
 cases hF
 exact rQ
def Zen (p0:Policy):Option Int:=
 letk (fun (x1:Bool)=>
  if x1 then
   (some 3:Option Int)
  else
  ZK Zax (fun f3 (x11:Int)=>
   if (decide (x11<(p0.groups.length:Int))) then
    (Zjt p0.groups x11).bind fun r15=>
    if (!decide (r15=0)) then
     (some r15:Option Int)
    else
    f3 (w64 (x11+1))
   else
   ZK Zax (fun f15 (x49:Int)=>
    if (decide (x49<(p0.rules.length:Int))) then
     (atI p0.rules x49).bind fun e62=>
     letk (fun (x63:Bool)=>
      if x63 then
       (some 2:Option Int)
      else
      (ZdI p0.groups e62.group).bind fun r64=>
      if (!r64) then
       (some 4:Option Int)
      else
      (Zju e62.scope).bind fun r65=>
      if (!r65) then
       (some 7:Option Int)
      else
      f15 (w64 (x49+1))) fun k17=>
     if (decide (e62.right<1)) then
      k17 true
     else
     k17 (decide (5<e62.right))
    else
    ZK Zax (fun f29 (x123:Int)=>
     if (decide (x123<(p0.guards.length:Int))) then
      (atI p0.guards x123).bind fun e145=>
      (ZdI p0.groups e145.group).bind fun r146=>
      if (!r146) then
       (some 4:Option Int)
      else
      letk (fun (x149:Bool)=>
       if x149 then
        (some 7:Option Int)
       else
       f29 (w64 (x123+1))) fun k31=>
      (Zbc e145.title).bind fun r150=>
      if (!r150) then
       k31 true
      else
      (Ze2 e145.section_).bind fun r151=>
      k31 (!r151)
     else
     (some 0:Option Int)) 0) 0) 0) fun k1=>
 if (decide (24<(p0.groups.length:Int))) then
  k1 true
 else
 if (decide (64<(p0.rules.length:Int))) then
  k1 true
 else
 k1 (decide (64<(p0.guards.length:Int)))
theorem Zks (p0:Policy) (r:Int) (hF:Zen p0=some r):Zb Tryz.prog 152 [p0.pv] (.int .i64 r):=by
 refine cF (fun r=>.int .i64 r) hF mix Tryz.func152 fun r hF=>?_
 unfold Zen at hF
 refine Za ?_
 refine rg ?_
 refine jL hF (fun x1=>mkS [(1,.ptr 1 (1,1) 0),(24,.bool x1)] [(1,some ((1,1),.box [.sl (List.map Group.cs p0.groups),.sl (List.map Rule.cs p0.rules),.sl (List.map Guard.cs p0.guards)]))] 2) (fun k1 hF=>?_) fun x1 hF=>?_
 ·refine rg ?_
  refine Zr rfl (M:=p0.groups) (f:=Group.cs) rfl (Za ?_)
  refine kS 13 hF rfl (fun hF=>?_) fun hF=>?_
  ·iterate 8 refine Zh rfl (Za ?_)
   exact jn true hF (sR [(1,1,0)])
  refine Zr rfl (M:=p0.rules) (f:=Rule.cs) rfl (Za ?_)
  refine kS 19 hF rfl (fun hF=>?_) fun hF=>?_
  ·iterate 4 refine Zh rfl (Za ?_)
   exact jn true hF (sR [(1,1,0)])
  refine Zr rfl (M:=p0.guards) (f:=Guard.cs) rfl (Za ?_)
  exact jn (decide (64<(p0.guards.length:Int))) hF (sR [(1,1,0)])
 refine cS hF rfl (fun hF=>?_) fun hF=>?_
 ·refine rg ?_
  cases hF
  exact rQ
 refine rg ?_
 refine bl ?_
 refine Zn hF fun f3 mf3 hf3 hF=>?_
 refine Zl (α:=Nat×Int) (fun a _=>mkS [(1,.ptr 1 (1,1) 0),(3,.int .i64 a.2)] [(1,some ((1,1),.box [.sl (List.map Group.cs p0.groups),.sl (List.map Rule.cs p0.rules),.sl (List.map Guard.cs p0.guards)]))] 2) (fun a=>ZK a.1 f3 a.2=some r) (fun a=>a.1) (mf3,0) 2 hF (sR [(1,1,1)]) (fun a _ hF=>?_)
 obtain ⟨mf3,x11⟩:=a
 obtain ⟨mf3,rfl,hF⟩:=Zo hf3 hF
 dsimp only at hF ⊢
 refine Za ?_
 refine rg ?_
 refine Zr rfl (M:=p0.groups) (f:=Group.cs) rfl (Za ?_)
 refine cS hF rfl (fun hF=>?_) fun hF=>?_
 ·refine bl ?_
  refine rg ?_
  obtain ⟨r15,h12,hF⟩:=bnd hF
  refine Zf (ZnA _ _ _ h12) rfl rfl (Za ?_)
  refine rg ?_
  refine cS hF rfl (fun hF=>?_) fun hF=>?_
  ·refine rg ?_
   cases hF
   exact rQ
  refine rg ?_
  exact rn (mf3,(w64 (x11+1))) hF (sR [(1,1,1)])
 refine rg ?_
 refine bl ?_
 refine Zn hF fun f15 mf15 hf15 hF=>?_
 refine Zl (α:=Nat×Int) (fun a _=>mkS [(1,.ptr 1 (1,1) 0),(5,.int .i64 a.2)] [(1,some ((1,1),.box [.sl (List.map Group.cs p0.groups),.sl (List.map Rule.cs p0.rules),.sl (List.map Guard.cs p0.guards)]))] 2) (fun a=>ZK a.1 f15 a.2=some r) (fun a=>a.1) (mf15,0) 2 hF (sR [(1,1,1)]) (fun a _ hF=>?_)
 obtain ⟨mf15,x49⟩:=a
 obtain ⟨mf15,rfl,hF⟩:=Zo hf15 hF
 dsimp only at hF ⊢
 refine Za ?_
 refine rg ?_
 refine Zr rfl (M:=p0.rules) (f:=Rule.cs) rfl (Za ?_)
 refine cS hF rfl (fun hF=>?_) fun hF=>?_
 ·refine bl ?_
  refine rg ?_
  obtain ⟨e62,h46,hF⟩:=bnd hF
  refine Zk (f:=Rule.cs) rfl h46 rfl rfl rfl (Za ?_)
  refine bl ?_
  refine jL hF (fun x63=>mkS [(1,.ptr 1 (1,1) 0),(5,.int .i64 x49),(6,.ptr 6 (1,6) 0),(51,.bool x63)] [(1,some ((1,1),.box [.sl (List.map Group.cs p0.groups),.sl (List.map Rule.cs p0.rules),.sl (List.map Guard.cs p0.guards)])),(6,some ((1,6),.box [.bool e62.allow,.int .i64 e62.right,.str e62.group,.int .i64 e62.scope.kind,.int .i64 e62.scope.title.space,.str e62.scope.title.name]))] 2) (fun k17 hF=>?_) fun x63 hF=>?_
  ·refine rg ?_
   refine kS 55 hF rfl (fun hF=>?_) fun hF=>?_
   ·iterate 3 refine Zh rfl (Za ?_)
    exact jn true hF (sR [(1,1,1),(6,3,5)])
   exact jn (decide (5<e62.right)) hF (sR [(1,1,1),(6,3,5)])
  refine cS hF rfl (fun hF=>?_) fun hF=>?_
  ·refine rg ?_
   cases hF
   exact rQ
  refine rg ?_
  obtain ⟨r64,h47,hF⟩:=bnd hF
  refine Zf (Zef _ _ _ h47) rfl rfl (Za ?_)
  refine cS hF rfl (fun hF=>?_) fun hF=>?_
  ·refine rg ?_
   cases hF
   exact rQ
  refine rg ?_
  obtain ⟨r65,h48,hF⟩:=bnd hF
  refine Zf (ZnB _ _ h48) rfl rfl (Za ?_)
  refine cS hF rfl (fun hF=>?_) fun hF=>?_
  ·refine rg ?_
   cases hF
   exact rQ
  refine rg ?_
  exact rn (mf15,(w64 (x49+1))) hF (sR [(1,1,1)])
 refine rg ?_
 refine bl ?_
 refine Zn hF fun f29 mf29 hf29 hF=>?_
 refine Zl (α:=Nat×Int) (fun a _=>mkS [(1,.ptr 1 (1,1) 0),(7,.int .i64 a.2)] [(1,some ((1,1),.box [.sl (List.map Group.cs p0.groups),.sl (List.map Rule.cs p0.rules),.sl (List.map Guard.cs p0.guards)]))] 2) (fun a=>ZK a.1 f29 a.2=some r) (fun a=>a.1) (mf29,0) 2 hF (sR [(1,1,1)]) (fun a _ hF=>?_)
 obtain ⟨mf29,x123⟩:=a
 obtain ⟨mf29,rfl,hF⟩:=Zo hf29 hF
 dsimp only at hF ⊢
 refine Za ?_
 refine rg ?_
 refine Zr rfl (M:=p0.guards) (f:=Guard.cs) rfl (Za ?_)
 refine cS hF rfl (fun hF=>?_) fun hF=>?_
 ·refine bl ?_
  refine rg ?_
  obtain ⟨e145,h115,hF⟩:=bnd hF
  refine Zk (f:=Guard.cs) rfl h115 rfl rfl rfl (Za ?_)
  refine bl ?_
  refine rg ?_
  obtain ⟨r146,h116,hF⟩:=bnd hF
  refine Zf (Zef _ _ _ h116) rfl rfl (Za ?_)
  refine cS hF rfl (fun hF=>?_) fun hF=>?_
  ·refine rg ?_
   cases hF
   exact rQ
  refine jL hF (fun x149=>mkS [(1,.ptr 1 (1,1) 0),(7,.int .i64 x123),(91,.bool x149)] [(1,some ((1,1),.box [.sl (List.map Group.cs p0.groups),.sl (List.map Rule.cs p0.rules),.sl (List.map Guard.cs p0.guards)]))] 2) (fun k31 hF=>?_) fun x149 hF=>?_
  ·refine rg ?_
   obtain ⟨r150,h119,hF⟩:=bnd hF
   refine Zf (Zbv _ _ h119) rfl rfl (Za ?_)
   refine kS 96 hF rfl (fun hF=>?_) fun hF=>?_
   ·iterate 4 refine Zh rfl (Za ?_)
    exact jn true hF (sR [(1,1,1)])
   obtain ⟨r151,h120,hF⟩:=bnd hF
   refine Zf (Zje _ _ h120) rfl rfl (Za ?_)
   exact jn (!r151) hF (sR [(1,1,1)])
  refine cS hF rfl (fun hF=>?_) fun hF=>?_
  ·refine rg ?_
   cases hF
   exact rQ
  refine rg ?_
  exact rn (mf29,(w64 (x123+1))) hF (sR [(1,1,1)])
 refine rg ?_
 cases hF
 exact rQ
end Go.Proofs.YtjoneoobolnnbaaGreatDoor
