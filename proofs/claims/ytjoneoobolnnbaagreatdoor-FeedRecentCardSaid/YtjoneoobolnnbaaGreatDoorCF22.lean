/- Functions of the program as Lean functions. Written by fxgen.py. -/
import Derived.Test.YtjoneoobolnnbaaGreatDoorCF03
import Derived.Test.YtjoneoobolnnbaaGreatDoorCF04
set_option linter.unusedVariables false
set_option maxHeartbeats 4000000
set_option maxRecDepth 100000
namespace Go.Proofs.YtjoneoobolnnbaaGreatDoor
open VL
def ZhI (p0:ByteArray):Option (List ByteArray):=
 ZK Zax (fun f7 ((x36,x37,x38):Int×Int×(List ByteArray))=>
  if (decide (x37<(p0.size:Int))) then
   letk (fun (x50:Int) (x51:List ByteArray)=>
    f7 (x50,(w64 (x37+1)),x51)) fun k8=>
   (atS p0 x37).bind fun c52=>
   if (decide (c52=10)) then
    (ZfF p0 x36 x37).bind fun l53=>
    (ZbY 16 x38 [l53]).bind fun l54=>
    k8 (w64 (x37+1)) l54
   else
   k8 x36 x38
  else
  (ZfF p0 x36 (p0.size:Int)).bind fun l55=>
  (ZbY 16 x38 [l55]).bind fun l56=>
  (some l56:Option (List ByteArray))) (0,0,[])
theorem Zn4 (p0:ByteArray) (r:List ByteArray) (hF:ZhI p0=some r):Zb Tryz.prog 150 [.str p0] (.sl (List.map csS r)):=by
 refine cF (fun r=>.sl (List.map csS r)) hF mix Tryz.func150 fun r hF=>?_
 unfold ZhI at hF
 refine Za ?_
 refine rg ?_
 refine rg ?_
 refine Zw (M:=([]:List ByteArray)) (f:=csS) rfl rfl rfl rfl (Nat.le_of_ble_eq_true rfl) rfl (Za ?_)
 refine rg ?_
 refine rg ?_
 refine bl ?_
 refine Zn hF fun f7 mf7 hf7 hF=>?_
 refine Zl (α:=Nat×(Int×Int×(List ByteArray))) (fun a _=>mkS [(0,.str p0),(3,.row 6 (1,6)),(4,.int .i64 a.2.1),(5,.int .i64 a.2.2.1)] [(6,some ((1,6),.row 9 1 false (List.map csS a.2.2.2)))] 2) (fun a=>ZK a.1 f7 a.2=some r) (fun a=>a.1) (mf7,0,0,[]) 2 hF (sR [(6,2,0)]) (fun a _ hF=>?_)
 obtain ⟨mf7,x36,x37,x38⟩:=a
 obtain ⟨mf7,rfl,hF⟩:=Zo hf7 hF
 dsimp only at hF ⊢
 refine Za ?_
 refine rg ?_
 refine cS hF rfl (fun hF=>?_) fun hF=>?_
 ·refine Zar hF fun k8 hk8 hF=>?_
  refine ZaF (α:=Int×(List ByteArray)) (fun a _=>mkS [(0,.str p0),(3,.row 6 (1,6)),(4,.int .i64 a.1),(5,.int .i64 x37)] [(6,some ((1,6),.row 9 1 false (List.map csS a.2)))] 2) (fun a=>k8 a.1 a.2=some r) (Za ?_) (fun a _ hF=>?_)
  ·refine bl ?_
   refine rg ?_
   obtain ⟨c52,h34,hF⟩:=bnd hF
   refine ZI StrT.eq rfl h34 rfl rfl (Za ?_)
   refine cS hF rfl (fun hF=>?_) fun hF=>?_
   ·refine rg ?_
    obtain ⟨l53,h35,hF⟩:=bnd hF
    refine ZN StrT.eq rfl h35 rfl rfl rfl (Za ?_)
    refine Zw (M:=([l53]:List ByteArray)) (f:=csS) rfl rfl rfl rfl (Nat.le_of_ble_eq_true rfl) rfl (Za ?_)
    obtain ⟨l54,h36,hF⟩:=bnd hF
    refine Zaj (f:=csS) rfl h36 (fun _=>rfl) rfl rfl rfl rfl (Za ?_)
    refine rg ?_
    exact jn ((w64 (x37+1)),l54) hF (sR [(6,4,6)])
   exact jn (x36,x38) hF (sR [(6,1,6)])
  obtain ⟨x50,x51⟩:=a
  subst hk8
  dsimp only at hF ⊢
  refine Za ?_
  refine rg ?_
  exact rn (mf7,x50,(w64 (x37+1)),x51) hF (sR [(6,1,6)])
 refine rg ?_
 obtain ⟨l55,h37,hF⟩:=bnd hF
 refine ZN StrT.eq rfl h37 rfl rfl rfl (Za ?_)
 refine Zw (M:=([l55]:List ByteArray)) (f:=csS) rfl rfl rfl rfl (Nat.le_of_ble_eq_true rfl) rfl (Za ?_)
 obtain ⟨l56,h38,hF⟩:=bnd hF
 refine Zaj (f:=csS) rfl h38 (fun _=>rfl) rfl rfl rfl rfl (Za ?_)
 cases hF
 exact rQ
def ZjX (p0:ByteArray):Option (List ByteArray):=
 ZK Zax (fun f37 ((x116,x117,x118):ByteArray×Int×(List ByteArray))=>
  if (decide (x117<(p0.size:Int))) then
   letk (fun (x160:ByteArray) (x161:List ByteArray)=>
    f37 (x160,(w64 (x117+1)),x161)) fun k41=>
   letk (fun (x164:Bool)=>
    if x164 then
     letk (fun (x169:List ByteArray)=>
      k41 (⟨#[]⟩:ByteArray) x169) fun k44=>
     if (!decide (x116=(⟨#[]⟩:ByteArray))) then
      (ZbY 16 x118 [x116]).bind fun l170=>
      k44 l170
     else
     k44 x118
    else
    (ZfF p0 x117 (w64 (x117+1))).bind fun l171=>
    (Zl7 x116 l171).bind fun s172=>
    k41 s172 x118) fun k42=>
   (atS p0 x117).bind fun c173=>
   if (decide (c173=9)) then
    k42 true
   else
   (atS p0 x117).bind fun c174=>
   k42 (decide (c174=32))
  else
  letk (fun (x176:List ByteArray)=>
   (some x176:Option (List ByteArray))) fun k45=>
  if (!decide (x116=(⟨#[]⟩:ByteArray))) then
   (ZbY 16 x118 [x116]).bind fun l177=>
   k45 l177
  else
  k45 x118) ((⟨#[]⟩:ByteArray),0,([]:List ByteArray))
theorem Zn5 (p0:ByteArray) (r:List ByteArray) (hF:ZjX p0=some r):Zb Tryz.prog 186 [.str p0] (.sl (List.map csS r)):=by
 refine cF (fun r=>.sl (List.map csS r)) hF mix Tryz.func186 fun r hF=>?_
 unfold ZjX at hF
 refine Za ?_
 refine rg ?_
 refine rg ?_
 refine rg ?_
 refine rg ?_
 refine bl ?_
 refine Zn hF fun f37 mf37 hf37 hF=>?_
 refine Zl (α:=Nat×(ByteArray×Int×(List ByteArray))) (fun a _=>mkS [(0,.str p0),(3,.row 3 (1,3)),(4,.str a.2.1),(5,.int .i64 a.2.2.1)] [(3,some ((1,3),.row 9 1 false (List.map csS a.2.2.2)))] 2) (fun a=>ZK a.1 f37 a.2=some r) (fun a=>a.1) (mf37,(⟨#[]⟩:ByteArray),0,([]:List ByteArray)) 2 hF (Za5 [] 3 9 1 rfl ⟨rfl,rfl,rfl,rfl,trivial⟩ ⟨⟨rfl,rfl⟩,trivial⟩ rfl) (fun a _ hF=>?_)
 obtain ⟨mf37,x116,x117,x118⟩:=a
 obtain ⟨mf37,rfl,hF⟩:=Zo hf37 hF
 dsimp only at hF ⊢
 refine Za ?_
 refine rg ?_
 refine cS hF rfl (fun hF=>?_) fun hF=>?_
 ·refine Zar hF fun k41 hk41 hF=>?_
  refine ZaF (α:=ByteArray×(List ByteArray)) (fun a _=>mkS [(0,.str p0),(3,.row 3 (1,3)),(4,.str a.1),(5,.int .i64 x117)] [(3,some ((1,3),.row 9 1 false (List.map csS a.2)))] 2) (fun a=>k41 a.1 a.2=some r) (Za ?_) (fun a _ hF=>?_)
  ·refine bl ?_
   refine jL hF (fun x164=>mkS [(0,.str p0),(3,.row 3 (1,3)),(4,.str x116),(5,.int .i64 x117),(21,.bool x164)] [(3,some ((1,3),.row 9 1 false (List.map csS x118)))] 2) (fun k42 hF=>?_) fun x164 hF=>?_
   ·refine rg ?_
    obtain ⟨c173,h119,hF⟩:=bnd hF
    refine ZI StrT.eq rfl h119 rfl rfl (Za ?_)
    refine kS 16 hF rfl (fun hF=>?_) fun hF=>?_
    ·iterate 4 refine Zh rfl (Za ?_)
     exact jn true hF (sR [(3,1,3)])
    obtain ⟨c174,h120,hF⟩:=bnd hF
    refine ZI StrT.eq rfl h120 rfl rfl (Za ?_)
    exact jn (decide (c174=32)) hF (sR [(3,1,3)])
   refine cS hF rfl (fun hF=>?_) fun hF=>?_
   ·refine rg ?_
    refine jL hF (fun x169=>mkS [(0,.str p0),(3,.row 3 (1,3)),(5,.int .i64 x117)] [(3,some ((1,3),.row 9 1 false (List.map csS x169)))] 2) (fun k44 hF=>?_) fun x169 hF=>?_
    ·refine cS hF rfl (fun hF=>?_) fun hF=>?_
     ·refine rg ?_
      refine Zw (M:=([x116]:List ByteArray)) (f:=csS) rfl rfl rfl rfl (Nat.le_of_ble_eq_true rfl) rfl (Za ?_)
      obtain ⟨l170,h116,hF⟩:=bnd hF
      refine Zaj (f:=csS) rfl h116 (fun _=>rfl) rfl rfl rfl rfl (Za ?_)
      exact jn l170 hF (sR [(3,3,3)])
     exact jn x118 hF (sR [(3,1,3)])
    refine rg ?_
    exact jn ((⟨#[]⟩:ByteArray),x169) hF (sR [(3,1,3)])
   refine rg ?_
   obtain ⟨l171,h117,hF⟩:=bnd hF
   refine ZN StrT.eq rfl h117 rfl rfl rfl (Za ?_)
   obtain ⟨s172,h118,hF⟩:=bnd hF
   refine Zes rfl h118 rfl rfl (Za ?_)
   exact jn (s172,x118) hF (sR [(3,1,3)])
  obtain ⟨x160,x161⟩:=a
  subst hk41
  dsimp only at hF ⊢
  refine Za ?_
  refine rg ?_
  exact rn (mf37,x160,(w64 (x117+1)),x161) hF (sR [(3,1,3)])
 refine rg ?_
 refine jL hF (fun x176=>mkS [(3,.row 3 (1,3))] [(3,some ((1,3),.row 9 1 false (List.map csS x176)))] 2) (fun k45 hF=>?_) fun x176 hF=>?_
 ·refine cS hF rfl (fun hF=>?_) fun hF=>?_
  ·refine rg ?_
   refine Zw (M:=([x116]:List ByteArray)) (f:=csS) rfl rfl rfl rfl (Nat.le_of_ble_eq_true rfl) rfl (Za ?_)
   obtain ⟨l177,h122,hF⟩:=bnd hF
   refine Zaj (f:=csS) rfl h122 (fun _=>rfl) rfl rfl rfl rfl (Za ?_)
   exact jn l177 hF (sR [(3,4,3)])
  exact jn x118 hF (sR [(3,1,3)])
 refine rg ?_
 cases hF
 exact rQ
def Zfm (p0:ByteArray):Option Int:=
 ZK Zax (fun f2 (x10:Int)=>
  if (decide (x10<([(⟨#[]⟩:ByteArray),(⟨#[114,101,97,100]⟩:ByteArray),(⟨#[101,100,105,116]⟩:ByteArray),(⟨#[109,111,118,101]⟩:ByteArray),(⟨#[100,101,108,101,116,101]⟩:ByteArray),(⟨#[114,101,118,105,101,119]⟩:ByteArray)].length:Int))) then
   (atI [(⟨#[]⟩:ByteArray),(⟨#[114,101,97,100]⟩:ByteArray),(⟨#[101,100,105,116]⟩:ByteArray),(⟨#[109,111,118,101]⟩:ByteArray),(⟨#[100,101,108,101,116,101]⟩:ByteArray),(⟨#[114,101,118,105,101,119]⟩:ByteArray)] x10).bind fun e14=>
   if (decide (e14=p0)) then
    (some x10:Option Int)
   else
   f2 (w64 (x10+1))
  else
  (some 0:Option Int)) 1
theorem ZhJ (p0:ByteArray) (r:Int) (hF:Zfm p0=some r):Zb Tryz.prog 187 [.str p0] (.int .i64 r):=by
 refine cF (fun r=>.int .i64 r) hF mix Tryz.func187 fun r hF=>?_
 unfold Zfm at hF
 refine Za ?_
 refine rg ?_
 refine rg ?_
 refine Zw (M:=([(⟨#[]⟩:ByteArray),(⟨#[114,101,97,100]⟩:ByteArray),(⟨#[101,100,105,116]⟩:ByteArray),(⟨#[109,111,118,101]⟩:ByteArray),(⟨#[100,101,108,101,116,101]⟩:ByteArray),(⟨#[114,101,118,105,101,119]⟩:ByteArray)]:List ByteArray)) (f:=csS) rfl rfl rfl rfl (Nat.le_of_ble_eq_true rfl) rfl (Za ?_)
 refine rg ?_
 refine bl ?_
 refine Zn hF fun f2 mf2 hf2 hF=>?_
 refine Zl (α:=Nat×Int) (fun a _=>mkS [(0,.str p0),(3,.row 5 (1,5)),(4,.int .i64 a.2)] [(5,some ((1,5),.row 9 1 false (List.map csS [(⟨#[]⟩:ByteArray),(⟨#[114,101,97,100]⟩:ByteArray),(⟨#[101,100,105,116]⟩:ByteArray),(⟨#[109,111,118,101]⟩:ByteArray),(⟨#[100,101,108,101,116,101]⟩:ByteArray),(⟨#[114,101,118,105,101,119]⟩:ByteArray)])))] 2) (fun a=>ZK a.1 f2 a.2=some r) (fun a=>a.1) (mf2,1) 2 hF (sR [(5,2,0)]) (fun a _ hF=>?_)
 obtain ⟨mf2,x10⟩:=a
 obtain ⟨mf2,rfl,hF⟩:=Zo hf2 hF
 dsimp only at hF ⊢
 refine Za ?_
 refine rg ?_
 refine Zr rfl (M:=[(⟨#[]⟩:ByteArray),(⟨#[114,101,97,100]⟩:ByteArray),(⟨#[101,100,105,116]⟩:ByteArray),(⟨#[109,111,118,101]⟩:ByteArray),(⟨#[100,101,108,101,116,101]⟩:ByteArray),(⟨#[114,101,118,105,101,119]⟩:ByteArray)]) (f:=csS) rfl (Za ?_)
 refine cS hF rfl (fun hF=>?_) fun hF=>?_
 ·refine bl ?_
  refine rg ?_
  obtain ⟨e14,h12,hF⟩:=bnd hF
  refine ZB rfl h12 rfl rfl rfl (Za ?_)
  refine Zai rfl h12 rfl rfl rfl (Za ?_)
  refine cS hF rfl (fun hF=>?_) fun hF=>?_
  ·refine rg ?_
   cases hF
   exact rQ
  refine rg ?_
  exact rn (mf2,(w64 (x10+1))) hF (sR [(5,1,5)])
 refine rg ?_
 cases hF
 exact rQ
def Zie (p0:ByteArray):Option ByteArray:=
 ZK Zax (fun f7 (x26:ByteArray)=>
  letk (fun (x35:Bool)=>
   if x35 then
    (ZfF x26 0 (w64 ((x26.size:Int) - 1))).bind fun l36=>
    f7 l36
   else
   (some x26:Option ByteArray)) fun k8=>
  if (decide (0<(x26.size:Int))) then
   (atS x26 (w64 ((x26.size:Int) - 1))).bind fun c37=>
   if (decide (c37=9)) then
    k8 true
   else
   (atS x26 (w64 ((x26.size:Int) - 1))).bind fun c38=>
   k8 (decide (c38=32))
  else
  k8 false) p0
theorem ZmS (p0:ByteArray) (r:ByteArray) (hF:Zie p0=some r):Zb Tryz.prog 258 [.str p0] (.str r):=by
 refine cF (fun r=>.str r) hF mix Tryz.func258 fun r hF=>?_
 unfold Zie at hF
 refine Za ?_
 refine rg ?_
 refine bl ?_
 refine Zn hF fun f7 mf7 hf7 hF=>?_
 refine Zl (α:=Nat×ByteArray) (fun a _=>mkS [(0,.str a.2)] [] 2) (fun a=>ZK a.1 f7 a.2=some r) (fun a=>a.1) (mf7,p0) 2 hF (sR []) (fun a _ hF=>?_)
 obtain ⟨mf7,x26⟩:=a
 obtain ⟨mf7,rfl,hF⟩:=Zo hf7 hF
 dsimp only at hF ⊢
 refine Za ?_
 refine jL hF (fun x35=>mkS [(0,.str x26),(21,.bool x35)] [] 2) (fun k8 hF=>?_) fun x35 hF=>?_
 ·refine rg ?_
  refine kS 6 hF rfl (fun hF=>?_) fun hF=>?_
  ·obtain ⟨c37,h29,hF⟩:=bnd hF
   refine ZI StrT.eq rfl h29 rfl rfl (Za ?_)
   refine kS 13 hF rfl (fun hF=>?_) fun hF=>?_
   ·iterate 6 refine Zh rfl (Za ?_)
    exact jn true hF (sR [])
   obtain ⟨c38,h30,hF⟩:=bnd hF
   refine ZI StrT.eq rfl h30 rfl rfl (Za ?_)
   exact jn (decide (c38=32)) hF (sR [])
  iterate 14 refine Zh rfl (Za ?_)
  exact jn false hF (sR [])
 refine cS hF rfl (fun hF=>?_) fun hF=>?_
 ·refine bl ?_
  refine rg ?_
  obtain ⟨l36,h28,hF⟩:=bnd hF
  refine ZN StrT.eq rfl h28 rfl rfl rfl (Za ?_)
  exact rn (mf7,l36) hF (sR [])
 refine rg ?_
 cases hF
 exact rQ
def Zha (p0:ByteArray):Option ByteArray:=
 ZK Zax (fun f7 (x26:ByteArray)=>
  letk (fun (x35:Bool)=>
   if x35 then
    (ZfF x26 1 (x26.size:Int)).bind fun l36=>
    f7 l36
   else
   (Zie x26).bind fun r37=>
   (some r37:Option ByteArray)) fun k8=>
  if (decide (0<(x26.size:Int))) then
   (atS x26 0).bind fun c38=>
   if (decide (c38=9)) then
    k8 true
   else
   (atS x26 0).bind fun c39=>
   k8 (decide (c39=32))
  else
  k8 false) p0
theorem Zf8 (p0:ByteArray) (r:ByteArray) (hF:Zha p0=some r):Zb Tryz.prog 229 [.str p0] (.str r):=by
 refine cF (fun r=>.str r) hF mix Tryz.func229 fun r hF=>?_
 unfold Zha at hF
 refine Za ?_
 refine rg ?_
 refine bl ?_
 refine Zn hF fun f7 mf7 hf7 hF=>?_
 refine Zl (α:=Nat×ByteArray) (fun a _=>mkS [(0,.str a.2)] [] 2) (fun a=>ZK a.1 f7 a.2=some r) (fun a=>a.1) (mf7,p0) 2 hF (sR []) (fun a _ hF=>?_)
 obtain ⟨mf7,x26⟩:=a
 obtain ⟨mf7,rfl,hF⟩:=Zo hf7 hF
 dsimp only at hF ⊢
 refine Za ?_
 refine jL hF (fun x35=>mkS [(0,.str x26),(15,.bool x35)] [] 2) (fun k8 hF=>?_) fun x35 hF=>?_
 ·refine rg ?_
  refine kS 6 hF rfl (fun hF=>?_) fun hF=>?_
  ·obtain ⟨c38,h30,hF⟩:=bnd hF
   refine ZI StrT.eq rfl h30 rfl rfl (Za ?_)
   refine kS 10 hF rfl (fun hF=>?_) fun hF=>?_
   ·iterate 3 refine Zh rfl (Za ?_)
    exact jn true hF (sR [])
   obtain ⟨c39,h31,hF⟩:=bnd hF
   refine ZI StrT.eq rfl h31 rfl rfl (Za ?_)
   exact jn (decide (c39=32)) hF (sR [])
  iterate 8 refine Zh rfl (Za ?_)
  exact jn false hF (sR [])
 refine cS hF rfl (fun hF=>?_) fun hF=>?_
 ·refine bl ?_
  refine rg ?_
  obtain ⟨l36,h28,hF⟩:=bnd hF
  refine ZN StrT.eq rfl h28 rfl rfl rfl (Za ?_)
  exact rn (mf7,l36) hF (sR [])
 refine rg ?_
 obtain ⟨r37,h29,hF⟩:=bnd hF
 refine Zf (ZmS _ _ h29) rfl rfl (Za ?_)
 cases hF
 exact rQ
def ZbG (p0:Int):Option ByteArray:=
 letk (fun (x1:Bool)=>
  if x1 then
   (some (⟨#[]⟩:ByteArray):Option ByteArray)
  else
  (atI [(⟨#[]⟩:ByteArray),(⟨#[84,97,108,107]⟩:ByteArray),(⟨#[85,115,101,114]⟩:ByteArray),(⟨#[84,101,109,112,108,97,116,101]⟩:ByteArray),(⟨#[67,97,116,101,103,111,114,121]⟩:ByteArray),(⟨#[80,114,111,106,101,99,116]⟩:ByteArray)] p0).bind fun e2=>
  (some e2:Option ByteArray)) fun k1=>
 if (decide (p0<0)) then
  k1 true
 else
 k1 (decide (([(⟨#[]⟩:ByteArray),(⟨#[84,97,108,107]⟩:ByteArray),(⟨#[85,115,101,114]⟩:ByteArray),(⟨#[84,101,109,112,108,97,116,101]⟩:ByteArray),(⟨#[67,97,116,101,103,111,114,121]⟩:ByteArray),(⟨#[80,114,111,106,101,99,116]⟩:ByteArray)].length:Int)≤p0))
theorem ZeA (p0:Int) (r:ByteArray) (hF:ZbG p0=some r):Zb Tryz.prog 170 [.int .i64 p0] (.str r):=by
 refine cF (fun r=>.str r) hF mix Tryz.func170 fun r hF=>?_
 unfold ZbG at hF
 refine Za ?_
 refine rg ?_
 refine rg ?_
 refine Zw (M:=([(⟨#[]⟩:ByteArray),(⟨#[84,97,108,107]⟩:ByteArray),(⟨#[85,115,101,114]⟩:ByteArray),(⟨#[84,101,109,112,108,97,116,101]⟩:ByteArray),(⟨#[67,97,116,101,103,111,114,121]⟩:ByteArray),(⟨#[80,114,111,106,101,99,116]⟩:ByteArray)]:List ByteArray)) (f:=csS) rfl rfl rfl rfl (Nat.le_of_ble_eq_true rfl) rfl (Za ?_)
 refine jL hF (fun x1=>mkS [(0,.int .i64 p0),(3,.row 4 (1,4)),(12,.bool x1)] [(4,some ((1,4),.row 9 1 false (List.map csS [(⟨#[]⟩:ByteArray),(⟨#[84,97,108,107]⟩:ByteArray),(⟨#[85,115,101,114]⟩:ByteArray),(⟨#[84,101,109,112,108,97,116,101]⟩:ByteArray),(⟨#[67,97,116,101,103,111,114,121]⟩:ByteArray),(⟨#[80,114,111,106,101,99,116]⟩:ByteArray)])))] 2) (fun k1 hF=>?_) fun x1 hF=>?_
 ·refine rg ?_
  refine kS 7 hF rfl (fun hF=>?_) fun hF=>?_
  ·iterate 4 refine Zh rfl (Za ?_)
   exact jn true hF (sR [(4,2,0)])
  refine Zr rfl (M:=[(⟨#[]⟩:ByteArray),(⟨#[84,97,108,107]⟩:ByteArray),(⟨#[85,115,101,114]⟩:ByteArray),(⟨#[84,101,109,112,108,97,116,101]⟩:ByteArray),(⟨#[67,97,116,101,103,111,114,121]⟩:ByteArray),(⟨#[80,114,111,106,101,99,116]⟩:ByteArray)]) (f:=csS) rfl (Za ?_)
  exact jn (decide (([(⟨#[]⟩:ByteArray),(⟨#[84,97,108,107]⟩:ByteArray),(⟨#[85,115,101,114]⟩:ByteArray),(⟨#[84,101,109,112,108,97,116,101]⟩:ByteArray),(⟨#[67,97,116,101,103,111,114,121]⟩:ByteArray),(⟨#[80,114,111,106,101,99,116]⟩:ByteArray)].length:Int)≤p0)) hF (sR [(4,2,0)])
 refine cS hF rfl (fun hF=>?_) fun hF=>?_
 ·refine rg ?_
  cases hF
  exact rQ
 refine rg ?_
 obtain ⟨e2,h1,hF⟩:=bnd hF
 refine ZB rfl h1 rfl rfl rfl (Za ?_)
 refine Zai rfl h1 rfl rfl rfl (Za ?_)
 cases hF
 exact rQ
def Zfn (p0:Int):Option ByteArray:=
 if (decide (p0=0)) then
  (some (⟨#[60,77,97,105,110,62]⟩:ByteArray):Option ByteArray)
 else
 (ZbG p0).bind fun r1=>
 (Zl7 (⟨#[60]⟩:ByteArray) r1).bind fun s2=>
 (Zl7 s2 (⟨#[62]⟩:ByteArray)).bind fun s3=>
 (some s3:Option ByteArray)
theorem ZjY (p0:Int) (r:ByteArray) (hF:Zfn p0=some r):Zb Tryz.prog 227 [.int .i64 p0] (.str r):=by
 refine cF (fun r=>.str r) hF mix Tryz.func227 fun r hF=>?_
 unfold Zfn at hF
 refine Za ?_
 refine rg ?_
 refine rg ?_
 refine cS hF rfl (fun hF=>?_) fun hF=>?_
 ·refine rg ?_
  cases hF
  exact rQ
 refine rg ?_
 obtain ⟨r1,h1,hF⟩:=bnd hF
 refine Zf (ZeA _ _ h1) rfl rfl (Za ?_)
 obtain ⟨s2,h2,hF⟩:=bnd hF
 refine Zes rfl h2 rfl rfl (Za ?_)
 obtain ⟨s3,h3,hF⟩:=bnd hF
 refine Zes rfl h3 rfl rfl (Za ?_)
 cases hF
 exact rQ
def Zgx (p0:ByteArray) (p1:ByteArray) (p2:Int):Option Int:=
 ZK Zax (fun f2 (x10:Int)=>
  if (decide ((w64 (x10+(p1.size:Int)))≤(p0.size:Int))) then
   (ZfF p0 x10 (w64 (x10+(p1.size:Int)))).bind fun l14=>
   if (decide (l14=p1)) then
    (some x10:Option Int)
   else
   f2 (w64 (x10+1))
  else
  (some (-1):Option Int)) p2
theorem Zgy (p0:ByteArray) (p1:ByteArray) (p2:Int) (r:Int) (hF:Zgx p0 p1 p2=some r):Zb Tryz.prog 118 [.str p0,.str p1,.int .i64 p2] (.int .i64 r):=by
 refine cF (fun r=>.int .i64 r) hF mix Tryz.func118 fun r hF=>?_
 unfold Zgx at hF
 refine Za ?_
 refine rg ?_
 refine rg ?_
 refine bl ?_
 refine Zn hF fun f2 mf2 hf2 hF=>?_
 refine Zl (α:=Nat×Int) (fun a _=>mkS [(0,.str p0),(1,.str p1),(7,.int .i64 a.2)] [] 2) (fun a=>ZK a.1 f2 a.2=some r) (fun a=>a.1) (mf2,p2) 2 hF (sR []) (fun a _ hF=>?_)
 obtain ⟨mf2,x10⟩:=a
 obtain ⟨mf2,rfl,hF⟩:=Zo hf2 hF
 dsimp only at hF ⊢
 refine Za ?_
 refine rg ?_
 refine cS hF rfl (fun hF=>?_) fun hF=>?_
 ·refine bl ?_
  refine rg ?_
  obtain ⟨l14,h12,hF⟩:=bnd hF
  refine ZN StrT.eq rfl h12 rfl rfl rfl (Za ?_)
  refine cS hF rfl (fun hF=>?_) fun hF=>?_
  ·refine rg ?_
   cases hF
   exact rQ
  refine rg ?_
  exact rn (mf2,(w64 (x10+1))) hF (sR [])
 refine rg ?_
 cases hF
 exact rQ
def Zi1 (p0:Int):Option Int:=
 letk (fun (x1:Bool)=>
  if x1 then
   (some (IntKind.wrap .u8 (p0+32)):Option Int)
  else
  (some p0:Option Int)) fun k1=>
 if (decide (65≤p0)) then
  k1 (decide (p0≤90))
 else
 k1 false
theorem ZkX (p0:Int) (r:Int) (hF:Zi1 p0=some r):Zb Tryz.prog 219 [.int .u8 p0] (.int .u8 r):=by
 refine cF (fun r=>.int .u8 r) hF mix Tryz.func219 fun r hF=>?_
 unfold Zi1 at hF
 refine Za ?_
 refine rg ?_
 refine jL hF (fun x1=>mkS [(0,.int .u8 p0),(8,.bool x1)] [] 2) (fun k1 hF=>?_) fun x1 hF=>?_
 ·refine rg ?_
  refine kS 5 hF rfl (fun hF=>?_) fun hF=>?_
  ·exact jn (decide (p0≤90)) hF (sR [])
  iterate 2 refine Zh rfl (Za ?_)
  exact jn false hF (sR [])
 refine cS hF rfl (fun hF=>?_) fun hF=>?_
 ·refine rg ?_
  cases hF
  exact rQ
 refine rg ?_
 cases hF
 exact rQ
def ZeB (p0:ByteArray) (p1:ByteArray):Option Bool:=
 if (!decide ((p0.size:Int)=(p1.size:Int))) then
  (some false:Option Bool)
 else
 ZK Zax (fun f2 (x34:Int)=>
  if (decide (x34<(p0.size:Int))) then
   (atS p0 x34).bind fun c47=>
   (Zi1 c47).bind fun r48=>
   (atS p1 x34).bind fun c49=>
   (Zi1 c49).bind fun r50=>
   if (!decide (r48=r50)) then
    (some false:Option Bool)
   else
   f2 (w64 (x34+1))
  else
  (some true:Option Bool)) 0
theorem ZiO (p0:ByteArray) (p1:ByteArray) (r:Bool) (hF:ZeB p0 p1=some r):Zb Tryz.prog 169 [.str p0,.str p1] (.bool r):=by
 refine cF (fun r=>.bool r) hF mix Tryz.func169 fun r hF=>?_
 unfold ZeB at hF
 refine Za ?_
 refine rg ?_
 refine rg ?_
 refine cS hF rfl (fun hF=>?_) fun hF=>?_
 ·refine rg ?_
  cases hF
  exact rQ
 refine rg ?_
 refine bl ?_
 refine Zn hF fun f2 mf2 hf2 hF=>?_
 refine Zl (α:=Nat×Int) (fun a _=>mkS [(0,.str p0),(1,.str p1),(5,.int .i64 a.2)] [] 2) (fun a=>ZK a.1 f2 a.2=some r) (fun a=>a.1) (mf2,0) 2 hF (sR []) (fun a _ hF=>?_)
 obtain ⟨mf2,x34⟩:=a
 obtain ⟨mf2,rfl,hF⟩:=Zo hf2 hF
 dsimp only at hF ⊢
 refine Za ?_
 refine rg ?_
 refine cS hF rfl (fun hF=>?_) fun hF=>?_
 ·refine bl ?_
  refine rg ?_
  obtain ⟨c47,h45,hF⟩:=bnd hF
  refine ZI StrT.eq rfl h45 rfl rfl (Za ?_)
  obtain ⟨r48,h46,hF⟩:=bnd hF
  refine Zf (ZkX _ _ h46) rfl rfl (Za ?_)
  obtain ⟨c49,h47,hF⟩:=bnd hF
  refine ZI StrT.eq rfl h47 rfl rfl (Za ?_)
  obtain ⟨r50,h48,hF⟩:=bnd hF
  refine Zf (ZkX _ _ h48) rfl rfl (Za ?_)
  refine cS hF rfl (fun hF=>?_) fun hF=>?_
  ·refine rg ?_
   cases hF
   exact rQ
  refine rg ?_
  exact rn (mf2,(w64 (x34+1))) hF (sR [])
 refine rg ?_
 cases hF
 exact rQ
def Zhb (p0:ByteArray):Option (Int×Int):=
 (Zgx p0 (⟨#[58]⟩:ByteArray) 0).bind fun r1=>
 if (decide (r1<0)) then
  (some (0,0):Option (Int×Int))
 else
 (ZfF p0 0 r1).bind fun l2=>
 letk (fun (x4:Bool)=>
  letk (fun (x6:ByteArray)=>
   ZK Zax (fun f4 (x24:Int)=>
    if (decide (x24<6)) then
     (ZbG x24).bind fun r31=>
     (ZeB x6 r31).bind fun r32=>
     if r32 then
      (some (x24,r1):Option (Int×Int))
     else
     f4 (w64 (x24+1))
    else
    (some (0,0):Option (Int×Int))) 1) fun k2=>
  if x4 then
   (ZfF l2 0 (w64 ((l2.size:Int) - 1))).bind fun l33=>
   k2 l33
  else
  k2 l2) fun k1=>
 if (decide (0<(l2.size:Int))) then
  (atS l2 (w64 ((l2.size:Int) - 1))).bind fun c34=>
  k1 (decide (c34=32))
 else
 k1 false
theorem ZlU (p0:ByteArray) (r:Int×Int) (hF:Zhb p0=some r):Zb Tryz.prog 120 [.str p0] (.tup [.int .i64 r.1,.int .i64 r.2]):=by
 refine cF (fun r=>.tup [.int .i64 r.1,.int .i64 r.2]) hF mix Tryz.func120 fun r hF=>?_
 unfold Zhb at hF
 refine Za ?_
 refine rg ?_
 refine rg ?_
 obtain ⟨r1,h1,hF⟩:=bnd hF
 refine Zf (Zgy _ _ _ _ h1) rfl rfl (Za ?_)
 refine rg ?_
 refine cS hF rfl (fun hF=>?_) fun hF=>?_
 ·refine rg ?_
  cases hF
  exact rQ
 refine rg ?_
 obtain ⟨l2,h2,hF⟩:=bnd hF
 refine ZN StrT.eq rfl h2 rfl rfl rfl (Za ?_)
 refine jL hF (fun x4=>mkS [(4,.int .i64 r1),(5,.str l2),(24,.bool x4)] [] 2) (fun k1 hF=>?_) fun x4 hF=>?_
 ·refine rg ?_
  refine kS 17 hF rfl (fun hF=>?_) fun hF=>?_
  ·obtain ⟨c34,h30,hF⟩:=bnd hF
   refine ZI StrT.eq rfl h30 rfl rfl (Za ?_)
   exact jn (decide (c34=32)) hF (sR [])
  iterate 6 refine Zh rfl (Za ?_)
  exact jn false hF (sR [])
 refine jL hF (fun x6=>mkS [(4,.int .i64 r1),(5,.str x6)] [] 2) (fun k2 hF=>?_) fun x6 hF=>?_
 ·refine cS hF rfl (fun hF=>?_) fun hF=>?_
  ·refine rg ?_
   obtain ⟨l33,h29,hF⟩:=bnd hF
   refine ZN StrT.eq rfl h29 rfl rfl rfl (Za ?_)
   exact jn l33 hF (sR [])
  exact jn l2 hF (sR [])
 refine rg ?_
 refine bl ?_
 refine Zn hF fun f4 mf4 hf4 hF=>?_
 refine Zl (α:=Nat×Int) (fun a _=>mkS [(4,.int .i64 r1),(5,.str x6),(6,.int .i64 a.2)] [] 2) (fun a=>ZK a.1 f4 a.2=some r) (fun a=>a.1) (mf4,1) 2 hF (sR []) (fun a _ hF=>?_)
 obtain ⟨mf4,x24⟩:=a
 obtain ⟨mf4,rfl,hF⟩:=Zo hf4 hF
 dsimp only at hF ⊢
 refine Za ?_
 refine rg ?_
 refine cS hF rfl (fun hF=>?_) fun hF=>?_
 ·refine bl ?_
  refine rg ?_
  obtain ⟨r31,h27,hF⟩:=bnd hF
  refine Zf (ZeA _ _ h27) rfl rfl (Za ?_)
  obtain ⟨r32,h28,hF⟩:=bnd hF
  refine Zf (ZiO _ _ _ h28) rfl rfl (Za ?_)
  refine cS hF rfl (fun hF=>?_) fun hF=>?_
  ·refine rg ?_
   cases hF
   exact rQ
  refine rg ?_
  exact rn (mf4,(w64 (x24+1))) hF (sR [])
 refine rg ?_
 cases hF
 exact rQ
def ZoW (p0:ByteArray) (p1:Int):Option ByteArray:=
 (ZfF p0 p1 (p0.size:Int)).bind fun l1=>
 letk (fun (x3:Bool)=>
  letk (fun (x5:ByteArray)=>
   (some x5:Option ByteArray)) fun k2=>
  if x3 then
   (ZfF l1 1 (l1.size:Int)).bind fun l6=>
   k2 l6
  else
  k2 l1) fun k1=>
 if (decide (0<(l1.size:Int))) then
  (atS l1 0).bind fun c7=>
  k1 (decide (c7=32))
 else
 k1 false
theorem ZoX (p0:ByteArray) (p1:Int) (r:ByteArray) (hF:ZoW p0 p1=some r):Zb Tryz.prog 257 [.str p0,.int .i64 p1] (.str r):=by
 refine cF (fun r=>.str r) hF mix Tryz.func257 fun r hF=>?_
 unfold ZoW at hF
 refine Za ?_
 refine rg ?_
 refine rg ?_
 obtain ⟨l1,h1,hF⟩:=bnd hF
 refine ZN StrT.eq rfl h1 rfl rfl rfl (Za ?_)
 refine jL hF (fun x3=>mkS [(0,.str l1),(15,.bool x3)] [] 2) (fun k1 hF=>?_) fun x3 hF=>?_
 ·refine rg ?_
  refine kS 11 hF rfl (fun hF=>?_) fun hF=>?_
  ·obtain ⟨c7,h5,hF⟩:=bnd hF
   refine ZI StrT.eq rfl h5 rfl rfl (Za ?_)
   exact jn (decide (c7=32)) hF (sR [])
  iterate 3 refine Zh rfl (Za ?_)
  exact jn false hF (sR [])
 refine jL hF (fun x5=>mkS [(0,.str x5)] [] 2) (fun k2 hF=>?_) fun x5 hF=>?_
 ·refine cS hF rfl (fun hF=>?_) fun hF=>?_
  ·refine rg ?_
   obtain ⟨l6,h4,hF⟩:=bnd hF
   refine ZN StrT.eq rfl h4 rfl rfl rfl (Za ?_)
   exact jn l6 hF (sR [])
  exact jn l1 hF (sR [])
 refine rg ?_
 cases hF
 exact rQ
end Go.Proofs.YtjoneoobolnnbaaGreatDoor
