/- What the rules ask of the types. Printed by facts.sh. -/
import Derived.Test.YtjoneoobolnnbaaGreatDoorCB34
import Derived.Test.YtjoneoobolnnbaaGreatDoorRows
namespace Go.Proofs.YtjoneoobolnnbaaGreatDoor
namespace VL
instance:Ze Tryz.prog 116 [.int .i64 0,.nil]:=⟨by kernel_rfl⟩
instance:Ld Tryz.prog 116 true 2:=⟨by kernel_rfl⟩
instance:Fld Tryz.prog 116 0 0 false 1:=⟨by kernel_rfl,rfl⟩
instance:Fld Tryz.prog 116 1 1 false 1:=⟨by kernel_rfl,rfl⟩
end VL
end Go.Proofs.YtjoneoobolnnbaaGreatDoor
namespace Go.Proofs.YtjoneoobolnnbaaGreatDoor
namespace VL
open Go.RowKit
section
variable {α β γ:Type}
theorem ZxW {s:ByteArray} {i:Int} {f:Int→Option β} {R:β→Prop} (h0:0≤i) (h1:i<(s.size:Int)) (k:∀ c:Int,0≤c→c<256→atS s i=some c→Tot (f c) R):Tot ((atS s i).bind f) R:=by
 obtain ⟨n,rfl⟩:∃ n:Nat,i=(n:Int):=⟨i.toNat,by omega⟩
 have hl:n<s.size:=by omega
 refine Za (ZnU hl) (k _ (by omega) ?_ (ZnU hl))
 have:=(s[n]).toNat_lt
 omega
theorem Zr6 {s:ByteArray} {a b:Int} {f:ByteArray→Option β} {R:β→Prop} (h0:0≤a) (h1:a≤b) (h2:b≤(s.size:Int)) (k:∀ m:ByteArray,m=s.extract a.toNat b.toNat→(m.size:Int)=b - a→Tot (f m) R):Tot ((Zge s a b).bind f) R:=by
 refine Za (v:=s.extract a.toNat b.toNat) (by unfold Zge;rw [if_pos ⟨h0,h1,h2⟩]) (k _ rfl ?_)
 rw [ByteArray.size_extract]
 omega
end
end VL
end Go.Proofs.YtjoneoobolnnbaaGreatDoor
namespace Go.Proofs.YtjoneoobolnnbaaGreatDoor
namespace VL
open Go.RowKit
theorem Za8 {α:Type} (l:List α) (q:Int) (x:α):(ZaS l q x).length=l.length:=List.length_set ..
end VL
end Go.Proofs.YtjoneoobolnnbaaGreatDoor
set_option linter.unusedVariables false
set_option maxHeartbeats 4000000
set_option maxRecDepth 100000
namespace Go.Proofs.YtjoneoobolnnbaaGreatDoor
open VL
def ZaU (p0:State) (p1:Title) (p2:Int):Option (Revision×Bool):=
 (Zce p0 p1).bind fun r1=>
 ZE Zaj (fun f2 (x19:Int)=>
  if (decide (x19<(r1.1.history.length:Int))) then
   (atI r1.1.history x19).bind fun e26=>
   if (decide (e26.number=p2)) then
    (atI r1.1.history x19).bind fun e27=>
    (some (e27,true):Option (Revision×Bool))
   else
   f2 (w64 (x19+1))
  else
  (some ((⟨0,(⟨#[]⟩:ByteArray),(⟨#[]⟩:ByteArray),(⟨#[]⟩:ByteArray),0,0⟩:Revision),false):Option (Revision×Bool))) 0
theorem Zew (p0:State) (p1:Title) (p2:Int) (r:Revision×Bool) (h:ZaU p0 p1 p2=some r):Zd Tryz.prog 23 [p0.pv,p1.pv,.int .i64 p2] (.tup [r.1.pv,.bool r.2]):=by
 refine cF (fun r=>.tup [r.1.pv,.bool r.2]) h mix Tryz.func23 fun r h=>?_
 unfold ZaU at h
 refine Zh ?_
 refine rg ?_
 refine rg ?_
 refine aC h (Zef _ _) fun r1 h=>?_
 refine rg ?_
 refine bl ?_
 refine Zn h fun f2 mf2 hf2 h=>?_
 refine Zk (α:=Nat×Int) (fun a _=>mkS [(2,.int .i64 p2),(6,.ptr 6 (1,6) 0),(8,.ptr 8 (1,8) 0),(10,.int .i64 a.2)] [(6,some ((1,6),.box [.int .i64 0,.str (⟨#[]⟩:ByteArray),.str (⟨#[]⟩:ByteArray),.str (⟨#[]⟩:ByteArray),.int .i64 0,.int .i64 0])),(8,some ((1,8),.box (Stored.cs r1.1)))] 2) (fun a=>ZE a.1 f2 a.2=some r) (fun a=>a.1) (mf2,0) 2 h (sR [(6,1,2),(8,2,6)]) (fun a _ h=>?_)
 obtain ⟨mf2,x19⟩:=a
 obtain ⟨mf2,rfl,h⟩:=Zo hf2 h
 dsimp only at h ⊢
 refine Zh ?_
 refine rg ?_
 refine lM Revision.cs r1.1.history ?_
 refine cS h rfl (fun h=>?_) fun h=>?_
 ·refine bl ?_
  refine rg ?_
  refine aI Revision.cs h fun e26 h=>?_
  refine cS h rfl (fun h=>?_) fun h=>?_
  ·refine rg ?_
   refine aI Revision.cs h fun e27 h=>?_
   cases h
   exact rQ
  refine rg ?_
  exact rn (mf2,(w64 (x19+1))) h (sR [(6,1,6),(8,1,8)])
 refine rg ?_
 cases h
 exact rQ
def Zdz:Option (List ByteArray):=
 (some [(⟨#[]⟩:ByteArray),(⟨#[97,110,110]⟩:ByteArray),(⟨#[98,111,98]⟩:ByteArray),(⟨#[99,121]⟩:ByteArray)]:Option (List ByteArray))
theorem Zgg  (r:List ByteArray) (h:Zdz=some r):Zd Tryz.prog 14 [] (.sl (List.map csS r)):=by
 refine cF (fun r=>.sl (List.map csS r)) h mix Tryz.func14 fun r h=>?_
 unfold Zdz at h
 refine Zh ?_
 refine rg ?_
 refine rg ?_
 refine bM csS ([(⟨#[]⟩:ByteArray),(⟨#[97,110,110]⟩:ByteArray),(⟨#[98,111,98]⟩:ByteArray),(⟨#[99,121]⟩:ByteArray)]:List ByteArray) ?_
 cases h
 exact rQ
theorem Zhz {w:Int} (h0:0≤w) (h1:w<4) {R:Bool→Prop} {f:ByteArray→Option Bool} (k:∀ u ∈ usersG,Tot (f u) R):Tot ((atI usersG w).bind f) R:=
 Zl h0 h1 fun u hu _=>k u hu
def ZhG (p0:ByteArray):Option (List ByteArray):=
 ZE Zaj (fun f7 ((x36,x37,x38):Int×Int×(List ByteArray))=>
  if (decide (x37<(p0.size:Int))) then
   letk (fun (x50:Int) (x51:List ByteArray)=>
    f7 (x50,(w64 (x37+1)),x51)) fun k8=>
   (atS p0 x37).bind fun c52=>
   if (decide (c52=10)) then
    (Zge p0 x36 (w64 (x37+1))).bind fun l53=>
    (ZcF 16 x38 [l53]).bind fun l54=>
    k8 (w64 (x37+1)) l54
   else
   k8 x36 x38
  else
  letk (fun (x57:List ByteArray)=>
   (some x57:Option (List ByteArray))) fun k9=>
  if (decide (x36<(p0.size:Int))) then
   (Zge p0 x36 (p0.size:Int)).bind fun l58=>
   (ZcF 16 x38 [l58]).bind fun l59=>
   k9 l59
  else
  k9 x38) (0,0,([]:List ByteArray))
theorem ZqF (p0:ByteArray) (r:List ByteArray) (h:ZhG p0=some r):Zd Tryz.prog 66 [.str p0] (.sl (List.map csS r)):=by
 refine cF (fun r=>.sl (List.map csS r)) h mix Tryz.func66 fun r h=>?_
 unfold ZhG at h
 refine Zh ?_
 refine rg ?_
 refine rg ?_
 refine rg ?_
 refine rg ?_
 refine bl ?_
 refine Zn h fun f7 mf7 hf7 h=>?_
 refine Zk (α:=Nat×(Int×Int×(List ByteArray))) (fun a _=>mkS [(0,.str p0),(3,.row 3 (1,3)),(4,.int .i64 a.2.1),(5,.int .i64 a.2.2.1)] [(3,some ((1,3),.row 9 1 false (List.map csS a.2.2.2)))] 2) (fun a=>ZE a.1 f7 a.2=some r) (fun a=>a.1) (mf7,0,0,([]:List ByteArray)) 2 h (Za9 [] 3 9 1 rfl ⟨rfl,rfl,rfl,rfl,trivial⟩ ⟨⟨rfl,rfl⟩,trivial⟩ rfl) (fun a _ h=>?_)
 obtain ⟨mf7,x36,x37,x38⟩:=a
 obtain ⟨mf7,rfl,h⟩:=Zo hf7 h
 dsimp only at h ⊢
 refine Zh ?_
 refine rg ?_
 refine cS h rfl (fun h=>?_) fun h=>?_
 ·refine Zax h fun k8 hk8 h=>?_
  refine ZaO (α:=Int×(List ByteArray)) (fun a _=>mkS [(0,.str p0),(3,.row 3 (1,3)),(4,.int .i64 a.1),(5,.int .i64 x37)] [(3,some ((1,3),.row 9 1 false (List.map csS a.2)))] 2) (fun a=>k8 a.1 a.2=some r) (Zh ?_) (fun a _ h=>?_)
  ·refine bl ?_
   refine rg ?_
   refine aS h fun c52 h=>?_
   refine cS h rfl (fun h=>?_) fun h=>?_
   ·refine rg ?_
    refine sS h fun l53 h=>?_
    refine bM csS ([l53]:List ByteArray) ?_
    refine pR csS h fun l54 h=>?_
    refine rg ?_
    exact jn ((w64 (x37+1)),l54) h (sR [(3,4,7)])
   exact jn (x36,x38) h (sR [(3,1,3)])
  obtain ⟨x50,x51⟩:=a
  subst hk8
  dsimp only at h ⊢
  refine Zh ?_
  refine rg ?_
  exact rn (mf7,x50,(w64 (x37+1)),x51) h (sR [(3,1,3)])
 refine rg ?_
 refine jL h (fun x57=>mkS [(3,.row 3 (1,3))] [(3,some ((1,3),.row 9 1 false (List.map csS x57)))] 2) (fun k9 h=>?_) fun x57 h=>?_
 ·refine cS h rfl (fun h=>?_) fun h=>?_
  ·refine rg ?_
   refine sS h fun l58 h=>?_
   refine bM csS ([l58]:List ByteArray) ?_
   refine pR csS h fun l59 h=>?_
   exact jn l59 h (sR [(3,4,5)])
  exact jn x38 h (sR [(3,1,3)])
 refine rg ?_
 cases h
 exact rQ
def ZhH (p0:ByteArray) (p1:List Edit):Option (ByteArray×Int):=
 (ZhG p0).bind fun r1=>
 ZE Zaj (fun f232 ((x717,x718,x719):ByteArray×Int×Int)=>
  if (decide (x719<(p1.length:Int))) then
   (atI p1 x719).bind fun e987=>
   letk (fun (x988:Bool)=>
    if x988 then
     (some ((⟨#[]⟩:ByteArray),9):Option (ByteArray×Int))
    else
    ZE Zaj (fun f271 ((x1017,x1018,x1019):ByteArray×Int×Int)=>
     if (decide (x1019<(e987.lines.length:Int))) then
      letk (fun (x1061:ByteArray) (x1062:Int)=>
       f271 (x1061,x1062,(w64 (x1019+1)))) fun k275=>
      letk (fun (x1068:Int)=>
       if (!decide (e987.kind=2)) then
        (atI e987.lines x1019).bind fun e1069=>
        (Zns x1017 e1069).bind fun s1070=>
        k275 s1070 x1068
       else
       k275 x1017 x1068) fun k277=>
      if (!decide (e987.kind=3)) then
       letk (fun (x1073:Bool)=>
        if x1073 then
         (some ((⟨#[]⟩:ByteArray),9):Option (ByteArray×Int))
        else
        k277 (w64 (x1018+1))) fun k278=>
       if (decide ((r1.length:Int)≤x1018)) then
        k278 true
       else
       (atI r1 x1018).bind fun e1074=>
       (atI e987.lines x1019).bind fun e1075=>
       k278 (!decide (e1074=e1075))
      else
      k277 x1018
     else
     f232 (x1017,x1018,(w64 (x719+1)))) (x717,x718,0)) fun k256=>
   if (decide (e987.kind<1)) then
    k256 true
   else
   k256 (decide (3<e987.kind))
  else
  if (decide (x718<(r1.length:Int))) then
   (some ((⟨#[]⟩:ByteArray),9):Option (ByteArray×Int))
  else
  (some (x717,0):Option (ByteArray×Int))) ((⟨#[]⟩:ByteArray),0,0)
theorem ZqG (p0:ByteArray) (p1:List Edit) (r:ByteArray×Int) (h:ZhH p0 p1=some r):Zd Tryz.prog 33 [.str p0,.sl (List.map Edit.cs p1)] (.tup [.str r.1,.int .i64 r.2]):=by
 refine cF (fun r=>.tup [.str r.1,.int .i64 r.2]) h mix Tryz.func33 fun r h=>?_
 unfold ZhH at h
 refine Zh ?_
 refine rg ?_
 refine rg ?_
 refine aC h (ZqF _) fun r1 h=>?_
 refine rg ?_
 refine rg ?_
 refine rg ?_
 refine bl ?_
 refine Zn h fun f232 mf232 hf232 h=>?_
 refine Zk (α:=Nat×(ByteArray×Int×Int)) (fun a _=>mkS [(1,.sl (List.map Edit.cs p1)),(6,.sl (List.map csS r1)),(7,.str a.2.1),(8,.int .i64 a.2.2.1),(9,.int .i64 a.2.2.2)] [] 2) (fun a=>ZE a.1 f232 a.2=some r) (fun a=>a.1) (mf232,(⟨#[]⟩:ByteArray),0,0) 2 h (sR []) (fun a _ h=>?_)
 obtain ⟨mf232,x717,x718,x719⟩:=a
 obtain ⟨mf232,rfl,h⟩:=Zo hf232 h
 dsimp only at h ⊢
 refine Zh ?_
 refine rg ?_
 refine lM Edit.cs p1 ?_
 refine cS h rfl (fun h=>?_) fun h=>?_
 ·refine bl ?_
  refine rg ?_
  refine aI Edit.cs h fun e987 h=>?_
  refine jL h (fun x988=>mkS [(1,.sl (List.map Edit.cs p1)),(6,.sl (List.map csS r1)),(7,.str x717),(8,.int .i64 x718),(9,.int .i64 x719),(10,.ptr 10 (1,10) 0),(31,.bool x988)] [(10,some ((1,10),.box (Edit.cs e987)))] 2) (fun k256 h=>?_) fun x988 h=>?_
  ·refine rg ?_
   refine kS 27 h rfl (fun h=>?_) fun h=>?_
   ·iterate 3 refine Zi rfl (Zh ?_)
    exact jn true h (sR [(10,3,4)])
   exact jn (decide (3<e987.kind)) h (sR [(10,3,4)])
  refine cS h rfl (fun h=>?_) fun h=>?_
  ·refine rg ?_
   cases h
   exact rQ
  refine rg ?_
  refine bl ?_
  refine Zn h fun f271 mf271 hf271 h=>?_
  refine Zk (α:=Nat×(ByteArray×Int×Int)) (fun a _=>mkS [(1,.sl (List.map Edit.cs p1)),(6,.sl (List.map csS r1)),(7,.str a.2.1),(8,.int .i64 a.2.2.1),(9,.int .i64 x719),(10,.ptr 10 (1,10) 0),(11,.int .i64 a.2.2.2)] [(10,some ((1,10),.box (Edit.cs e987)))] 2) (fun a=>ZE a.1 f271 a.2=some r) (fun a=>a.1) (mf271,x717,x718,0) 2 h (sR [(10,1,10)]) (fun a _ h=>?_)
  obtain ⟨mf271,x1017,x1018,x1019⟩:=a
  obtain ⟨mf271,rfl,h⟩:=Zo hf271 h
  dsimp only at h ⊢
  refine Zh ?_
  refine rg ?_
  refine lM csS e987.lines ?_
  refine cS h rfl (fun h=>?_) fun h=>?_
  ·refine Zax h fun k275 hk275 h=>?_
   refine ZaO (α:=ByteArray×Int) (fun a _=>mkS [(1,.sl (List.map Edit.cs p1)),(6,.sl (List.map csS r1)),(7,.str a.1),(8,.int .i64 a.2),(9,.int .i64 x719),(10,.ptr 10 (1,10) 0),(11,.int .i64 x1019)] [(10,some ((1,10),.box (Edit.cs e987)))] 2) (fun a=>k275 a.1 a.2=some r) (Zh ?_) (fun a _ h=>?_)
   ·refine bl ?_
    refine rg ?_
    refine jL h (fun x1068=>mkS [(1,.sl (List.map Edit.cs p1)),(6,.sl (List.map csS r1)),(7,.str x1017),(8,.int .i64 x1068),(9,.int .i64 x719),(10,.ptr 10 (1,10) 0),(11,.int .i64 x1019)] [(10,some ((1,10),.box (Edit.cs e987)))] 2) (fun k277 h=>?_) fun x1068 h=>?_
    ·refine cS h rfl (fun h=>?_) fun h=>?_
     ·refine jL h (fun x1073=>mkS [(1,.sl (List.map Edit.cs p1)),(6,.sl (List.map csS r1)),(7,.str x1017),(8,.int .i64 x1018),(9,.int .i64 x719),(10,.ptr 10 (1,10) 0),(11,.int .i64 x1019),(57,.bool x1073)] [(10,some ((1,10),.box (Edit.cs e987)))] 2) (fun k278 h=>?_) fun x1073 h=>?_
      ·refine rg ?_
       refine lM csS r1 ?_
       refine kS 46 h rfl (fun h=>?_) fun h=>?_
       ·iterate 10 refine Zi rfl (Zh ?_)
        exact jn true h (sR [(10,1,10)])
       refine aI csS h fun e1074 h=>?_
       refine aI csS h fun e1075 h=>?_
       exact jn (!decide (e1074=e1075)) h (sR [(10,1,10)])
      refine cS h rfl (fun h=>?_) fun h=>?_
      ·refine rg ?_
       cases h
       exact rQ
      refine rg ?_
      exact jn (w64 (x1018+1)) h (sR [(10,1,10)])
     exact jn x1018 h (sR [(10,1,10)])
    refine rg ?_
    refine cS h rfl (fun h=>?_) fun h=>?_
    ·refine rg ?_
     refine aI csS h fun e1069 h=>?_
     refine sT h fun s1070 h=>?_
     exact jn (s1070,x1068) h (sR [(10,1,10)])
    exact jn (x1017,x1068) h (sR [(10,1,10)])
   obtain ⟨x1061,x1062⟩:=a
   subst hk275
   dsimp only at h ⊢
   refine Zh ?_
   refine rg ?_
   exact rn (mf271,x1061,x1062,(w64 (x1019+1))) h (sR [(10,1,10)])
  refine rg ?_
  exact rn (mf232,x1017,x1018,(w64 (x719+1))) h (sR [])
 refine rg ?_
 refine lM csS r1 ?_
 refine cS h rfl (fun h=>?_) fun h=>?_
 ·refine rg ?_
  cases h
  exact rQ
 refine rg ?_
 cases h
 exact rQ
def Zfb (p0:List Int) (p1:Int) (p2:Int) (p3:Int) (p4:Int):Option Bool:=
 (ZfS p0).bind fun r1=>
 (Zdz).bind fun r2=>
 (ZbW p1 4).bind fun r3=>
 (atI r2 r3).bind fun e4=>
 (ZdH).bind fun r5=>
 (ZbW p2 8).bind fun r6=>
 (atI r5 r6).bind fun e7=>
 (Zce r1 e7).bind fun r8=>
 (ZbW p3 (w64 ((r8.1.history.length:Int)+1))).bind fun r9=>
 (ZbW p4 (w64 ((r8.1.history.length:Int)+1))).bind fun r10=>
 (Zb2 r1 e4 e7 r9 r10).bind fun r11=>
 (ZaT r1 e4 e7).bind fun r12=>
 if (!r12) then
  letk (fun (x17:Bool)=>
   (some x17:Option Bool)) fun k2=>
  (w42_awake).bind fun r18=>
  if r18 then
   if (decide ((r11.1.length:Int)=0)) then
    if (decide (r11.2=10)) then
     k2 true
    else
    if (decide (r11.2=4)) then
     k2 (!r8.2)
    else
    k2 false
   else
   k2 false
  else
  k2 false
 else
 (ZaU r1 e7 r9).bind fun r19=>
 (ZaU r1 e7 r10).bind fun r20=>
 (ZhH r19.1.text r11.1).bind fun r21=>
 letk (fun (x23:Bool)=>
  (some x23:Option Bool)) fun k3=>
 (w42_awake).bind fun r24=>
 if r24 then
  if (decide (r11.2=0)) then
   if (decide (r21.2=0)) then
    k3 (decide (r21.1=r20.1.text))
   else
   k3 false
  else
  k3 false
 else
 k3 false
theorem Zm2 (p0:List Int) (p1:Int) (p2:Int) (p3:Int) (p4:Int) (r:Bool) (h:Zfb p0 p1 p2 p3 p4=some r):Zd Tryz.prog 8 [.sl (List.map csI p0),.int .i64 p1,.int .i64 p2,.int .i64 p3,.int .i64 p4] (.bool r):=by
 refine cF (fun r=>.bool r) h mix Tryz.func8 fun r h=>?_
 unfold Zfb at h
 refine Zh ?_
 refine rg ?_
 refine rg ?_
 refine aC h (Ziy _) fun r1 h=>?_
 refine aC h Zgg fun r2 h=>?_
 refine aC h (ZbG _ _) fun r3 h=>?_
 refine aI csS h fun e4 h=>?_
 refine aC h Zec fun r5 h=>?_
 refine aC h (ZbG _ _) fun r6 h=>?_
 refine aI Title.cs h fun e7 h=>?_
 refine rg ?_
 refine aC h (Zef _ _) fun r8 h=>?_
 refine rg ?_
 refine lM Revision.cs r8.1.history ?_
 refine aC h (ZbG _ _) fun r9 h=>?_
 refine lM Revision.cs r8.1.history ?_
 refine aC h (ZbG _ _) fun r10 h=>?_
 refine rg ?_
 refine aC h (Zhe _ _ _ _ _) fun r11 h=>?_
 refine rg ?_
 refine aC h (ZbQ _ _ _) fun r12 h=>?_
 refine cS h rfl (fun h=>?_) fun h=>?_
 ·refine jL h (fun x17=>mkS [(10,.bool x17)] [] 2) (fun k2 h=>?_) fun x17 h=>?_
  ·refine rg ?_
   refine aC h Zcj fun r18 h=>?_
   refine kS 71 h rfl (fun h=>?_) fun h=>?_
   ·refine lM Edit.cs r11.1 ?_
    refine kS 76 h rfl (fun h=>?_) fun h=>?_
    ·refine kS 79 h rfl (fun h=>?_) fun h=>?_
     ·iterate 6 refine Zi rfl (Zh ?_)
      exact jn true h (sR [])
     refine kS 82 h rfl (fun h=>?_) fun h=>?_
     ·exact jn (!r8.2) h (sR [])
     iterate 2 refine Zi rfl (Zh ?_)
     exact jn false h (sR [])
    iterate 10 refine Zi rfl (Zh ?_)
    exact jn false h (sR [])
   iterate 13 refine Zi rfl (Zh ?_)
   exact jn false h (sR [])
  cases h
  exact rQ
 refine rg ?_
 refine aC h (Zew _ _ _) fun r19 h=>?_
 refine rg ?_
 refine aC h (Zew _ _ _) fun r20 h=>?_
 refine rg ?_
 refine aC h (ZqG _ _) fun r21 h=>?_
 refine jL h (fun x23=>mkS [(10,.bool x23)] [] 2) (fun k3 h=>?_) fun x23 h=>?_
 ·refine rg ?_
  refine aC h Zcj fun r24 h=>?_
  refine kS 110 h rfl (fun h=>?_) fun h=>?_
  ·refine kS 114 h rfl (fun h=>?_) fun h=>?_
   ·refine kS 118 h rfl (fun h=>?_) fun h=>?_
    ·exact jn (decide (r21.1=r20.1.text)) h (sR [])
    iterate 4 refine Zi rfl (Zh ?_)
    exact jn false h (sR [])
   iterate 6 refine Zi rfl (Zh ?_)
   exact jn false h (sR [])
  iterate 8 refine Zi rfl (Zh ?_)
  exact jn false h (sR [])
 cases h
 exact rQ
end Go.Proofs.YtjoneoobolnnbaaGreatDoor
