/- Functions of the program as Lean functions. Written by fxgen.py. | Functions of the program as Lean functions. Written by fxgen.py. | Functions of the program as Lean functions. Written by fxgen.py. | slices.Clone at items, empty slices too. | Functions of the program as Lean functions. Written by fxgen.py. | A run that stops at structs that are written out. No program is named. | Functions of the program as Lean functions. Written by fxgen.py. | Functions of the program as Lean functions. Written by fxgen.py. | strings.genSplit, as the others are written. -/
import Derived.Test.YtjoneoobolnnbaaGreatDoorCF11
import Derived.Test.YtjoneoobolnnbaaGreatDoorCF12
import Derived.Test.YtjoneoobolnnbaaGreatDoorCF04
import Derived.Test.YtjoneoobolnnbaaGreatDoorCF15
import Derived.Test.YtjoneoobolnnbaaGreatDoorCF03
import Derived.Test.YtjoneoobolnnbaaGreatDoorCF10
import Derived.Laws.AppendOwn
import Derived.Lib.SliceRun
import Derived.Test.YtjoneoobolnnbaaGreatDoorCF05
import Derived.Test.YtjoneoobolnnbaaGreatDoorCF06
set_option linter.unusedVariables false
set_option maxHeartbeats 4000000
set_option maxRecDepth 100000
namespace Go.Proofs.YtjoneoobolnnbaaGreatDoor
open VL
def ZcK (p0:ByteArray) (p1:Bool) (p2:ByteArray) (p3:List ByteArray):Option Bool:=
 letk (fun (x7:Bool)=>
  (some x7:Option Bool)) fun k1=>
 if p1 then
  if (decide (p0=p2)) then
   k1 true
  else
  if (decide (0<(p0.size:Int))) then
   (atS p0 0).bind fun c8=>
   if (decide (c8=64)) then
    (ZfF p0 1 (p0.size:Int)).bind fun l9=>
    (slices_Contains_string p3 l9).bind fun r10=>
    k1 r10
   else
   k1 false
  else
  k1 false
 else
 if (decide (0<(p0.size:Int))) then
  (atS p0 0).bind fun c11=>
  if (decide (c11=64)) then
   (ZfF p0 1 (p0.size:Int)).bind fun l12=>
   (slices_Contains_string p3 l12).bind fun r13=>
   k1 r13
  else
  k1 false
 else
 k1 false
theorem Zip (p0:ByteArray) (p1:Bool) (p2:ByteArray) (p3:List ByteArray) (r:Bool) (hF:ZcK p0 p1 p2 p3=some r):Zb Tryz.prog 110 [.str p0,.cel [.bool p1],.cel [.str p2],.cel [.sl (List.map csS p3)]] (.bool r):=by
 refine cF (fun r=>.bool r) hF mix Tryz.func110 fun r hF=>?_
 unfold ZcK at hF
 refine Za ?_
 refine rg ?_
 refine jL hF (fun x7=>mkS [(5,.bool x7)] [] 2) (fun k1 hF=>?_) fun x7 hF=>?_
 ·refine rg ?_
  refine kS 7 hF rfl (fun hF=>?_) fun hF=>?_
  ·refine kS 12 hF rfl (fun hF=>?_) fun hF=>?_
   ·iterate 14 refine Zh rfl (Za ?_)
    exact jn true hF (sR [])
   refine kS 16 hF rfl (fun hF=>?_) fun hF=>?_
   ·obtain ⟨c8,h7,hF⟩:=bnd hF
    refine ZI StrT.eq rfl h7 rfl rfl (Za ?_)
    refine kS 21 hF rfl (fun hF=>?_) fun hF=>?_
    ·obtain ⟨l9,h8,hF⟩:=bnd hF
     refine ZN StrT.eq rfl h8 rfl rfl rfl (Za ?_)
     obtain ⟨r10,h9,hF⟩:=bnd hF
     refine Zf (Zbe _ _ _ h9) rfl rfl (Za ?_)
     exact jn r10 hF (sR [])
    iterate 4 refine Zh rfl (Za ?_)
    exact jn false hF (sR [])
   iterate 7 refine Zh rfl (Za ?_)
   exact jn false hF (sR [])
  iterate 3 refine Zh rfl (Za ?_)
  refine kS 16 hF rfl (fun hF=>?_) fun hF=>?_
  ·obtain ⟨c11,h10,hF⟩:=bnd hF
   refine ZI StrT.eq rfl h10 rfl rfl (Za ?_)
   refine kS 21 hF rfl (fun hF=>?_) fun hF=>?_
   ·obtain ⟨l12,h11,hF⟩:=bnd hF
    refine ZN StrT.eq rfl h11 rfl rfl rfl (Za ?_)
    obtain ⟨r13,h12,hF⟩:=bnd hF
    refine Zf (Zbe _ _ _ h12) rfl rfl (Za ?_)
    exact jn r13 hF (sR [])
   iterate 4 refine Zh rfl (Za ?_)
   exact jn false hF (sR [])
  iterate 7 refine Zh rfl (Za ?_)
  exact jn false hF (sR [])
 cases hF
 exact rQ
def Zbq (p0:Policy) (p1:ByteArray):Option (List ByteArray):=
 (ZcG p1).bind fun r1=>
 letk (fun (x3:List ByteArray)=>
  ZK Zax (fun f23 ((x138,x139):Bool×(List ByteArray))=>
   if x138 then
    ZK Zax (fun f26 ((x183,x184,x185):Bool×Int×(List ByteArray))=>
     if (decide (x184<(p0.groups.length:Int))) then
      letk (fun (x200:Bool) (x201:List ByteArray)=>
       f26 (x200,(w64 (x184+1)),x201)) fun k27=>
      (atI p0.groups x184).bind fun e202=>
      (slices_Contains_string x185 e202.name).bind fun r203=>
      if r203 then
       k27 x183 x185
      else
      (Za3 e202.members (fun y0=>ZcK y0 r1 p1 x185)).bind fun r204=>
      if r204 then
       (ZbY 16 x185 [e202.name]).bind fun l205=>
       k27 true l205
      else
      k27 x183 x185
     else
     f23 (x183,x185)) (false,0,x139)
   else
   (slices_Sort_string x139).bind fun r206=>
   (some r206:Option (List ByteArray))) (true,x3)) fun k1=>
 if r1 then
  (ZbY 16 [(⟨#[97,108,108]⟩:ByteArray)] [(⟨#[117,115,101,114,115]⟩:ByteArray)]).bind fun l207=>
  k1 l207
 else
 k1 [(⟨#[97,108,108]⟩:ByteArray)]
theorem Zgi (p0:Policy) (p1:ByteArray) (r:List ByteArray) (hF:Zbq p0 p1=some r):Zb Tryz.prog 60 [p0.pv,.str p1] (.sl (List.map csS r)):=by
 refine cF (fun r=>.sl (List.map csS r)) hF mix Tryz.func60 fun r hF=>?_
 unfold Zbq at hF
 refine Za ?_
 refine rg ?_
 refine rg ?_
 refine Zw (M:=([(⟨#[97,108,108]⟩:ByteArray)]:List ByteArray)) (f:=csS) rfl rfl rfl rfl (Nat.le_of_ble_eq_true rfl) rfl (Za ?_)
 refine rg ?_
 obtain ⟨r1,h1,hF⟩:=bnd hF
 refine Zf (ZcH _ _ h1) rfl rfl (Za ?_)
 refine rg ?_
 refine jL hF (fun x3=>mkS [(2,.ptr 2 (1,2) 0),(3,.ptr 3 (1,3) 0),(5,.ptr 5 (1,5) 0),(6,.ptr 6 (1,6) 0)] [(2,some ((1,2),.box [.sl (List.map Group.cs p0.groups),.sl (List.map Rule.cs p0.rules),.sl (List.map Guard.cs p0.guards)])),(3,some ((1,3),.box [.str p1])),(5,some ((1,5),.box [.row 10 (1,10)])),(6,some ((1,6),.box [.bool r1])),(10,some ((1,10),.row 9 1 false (List.map csS x3)))] 2) (fun k1 hF=>?_) fun x3 hF=>?_
 ·refine cS hF rfl (fun hF=>?_) fun hF=>?_
  ·refine rg ?_
   refine Zw (M:=([(⟨#[117,115,101,114,115]⟩:ByteArray)]:List ByteArray)) (f:=csS) rfl rfl rfl rfl (Nat.le_of_ble_eq_true rfl) rfl (Za ?_)
   obtain ⟨l207,h148,hF⟩:=bnd hF
   refine Zaj (f:=csS) rfl h148 (fun _=>rfl) rfl rfl rfl rfl (Za ?_)
   exact jn l207 hF (sR [(2,1,0),(3,1,1),(5,2,1),(6,3,2),(10,5,2)])
  exact jn [(⟨#[97,108,108]⟩:ByteArray)] hF (sR [(2,1,0),(3,1,1),(5,2,1),(6,3,2),(10,2,0)])
 refine rg ?_
 refine bl ?_
 refine Zn hF fun f23 mf23 hf23 hF=>?_
 refine Zl (α:=Nat×(Bool×(List ByteArray))) (fun a _=>mkS [(2,.ptr 2 (1,2) 0),(3,.ptr 3 (1,3) 0),(5,.ptr 5 (1,5) 0),(6,.ptr 6 (1,6) 0),(7,.bool a.2.1)] [(2,some ((1,2),.box [.sl (List.map Group.cs p0.groups),.sl (List.map Rule.cs p0.rules),.sl (List.map Guard.cs p0.guards)])),(3,some ((1,3),.box [.str p1])),(5,some ((1,5),.box [.row 10 (1,10)])),(6,some ((1,6),.box [.bool r1])),(10,some ((1,10),.row 9 1 false (List.map csS a.2.2)))] 2) (fun a=>ZK a.1 f23 a.2=some r) (fun a=>a.1) (mf23,true,x3) 2 hF (sR [(2,1,2),(3,1,3),(5,1,5),(6,1,6),(10,1,10)]) (fun a _ hF=>?_)
 obtain ⟨mf23,x138,x139⟩:=a
 obtain ⟨mf23,rfl,hF⟩:=Zo hf23 hF
 dsimp only at hF ⊢
 refine Za ?_
 refine rg ?_
 refine cS hF rfl (fun hF=>?_) fun hF=>?_
 ·refine bl ?_
  refine rg ?_
  refine rg ?_
  refine Zr rfl (M:=p0.groups) (f:=Group.cs) rfl (Za ?_)
  refine bl ?_
  refine Zn hF fun f26 mf26 hf26 hF=>?_
  refine Zl (α:=Nat×(Bool×Int×(List ByteArray))) (fun a _=>mkS [(2,.ptr 2 (1,2) 0),(3,.ptr 3 (1,3) 0),(5,.ptr 5 (1,5) 0),(6,.ptr 6 (1,6) 0),(7,.bool a.2.1),(19,.sl (List.map Group.cs p0.groups)),(20,.int .i64 (p0.groups.length:Int)),(21,.int .i64 a.2.2.1)] [(2,some ((1,2),.box [.sl (List.map Group.cs p0.groups),.sl (List.map Rule.cs p0.rules),.sl (List.map Guard.cs p0.guards)])),(3,some ((1,3),.box [.str p1])),(5,some ((1,5),.box [.row 10 (1,10)])),(6,some ((1,6),.box [.bool r1])),(10,some ((1,10),.row 9 1 false (List.map csS a.2.2.2)))] 2) (fun a=>ZK a.1 f26 a.2=some r) (fun a=>a.1) (mf26,false,0,x139) 2 hF (sR [(2,1,2),(3,1,3),(5,1,5),(6,1,6),(10,1,10)]) (fun a _ hF=>?_)
  obtain ⟨mf26,x183,x184,x185⟩:=a
  obtain ⟨mf26,rfl,hF⟩:=Zo hf26 hF
  dsimp only at hF ⊢
  refine Za ?_
  refine rg ?_
  refine cS hF rfl (fun hF=>?_) fun hF=>?_
  ·refine Zar hF fun k27 hk27 hF=>?_
   refine ZaF (α:=Bool×(List ByteArray)) (fun a _=>mkS [(2,.ptr 2 (1,2) 0),(3,.ptr 3 (1,3) 0),(5,.ptr 5 (1,5) 0),(6,.ptr 6 (1,6) 0),(7,.bool a.1),(19,.sl (List.map Group.cs p0.groups)),(20,.int .i64 (p0.groups.length:Int)),(21,.int .i64 x184)] [(2,some ((1,2),.box [.sl (List.map Group.cs p0.groups),.sl (List.map Rule.cs p0.rules),.sl (List.map Guard.cs p0.guards)])),(3,some ((1,3),.box [.str p1])),(5,some ((1,5),.box [.row 10 (1,10)])),(6,some ((1,6),.box [.bool r1])),(10,some ((1,10),.row 9 1 false (List.map csS a.2)))] 2) (fun a=>k27 a.1 a.2=some r) (Za ?_) (fun a _ hF=>?_)
   ·refine bl ?_
    refine rg ?_
    obtain ⟨e202,h143,hF⟩:=bnd hF
    refine Zk (f:=Group.cs) rfl h143 rfl rfl rfl (Za ?_)
    refine rg ?_
    obtain ⟨r203,h144,hF⟩:=bnd hF
    refine Zej (Zbe _ _ _ h144) rfl rfl rfl (Za ?_)
    refine cS hF rfl (fun hF=>?_) fun hF=>?_
    ·exact jn (x183,x185) hF (sR [(2,1,2),(3,1,3),(5,1,5),(6,1,6),(10,1,10)])
    refine rg ?_
    refine Zh0 rfl rfl (Za ?_)
    obtain ⟨r204,h145,hF⟩:=bnd hF
    refine Zej (Zdz _ (fun y0=>ZcK y0 r1 p1 x185) 110 [[.bool r1],[.str p1],[.sl (List.map csS x185)]] (fun y0 r h=>Zip y0 r1 p1 x185 r h) _ h145) rfl rfl rfl (Za ?_)
    refine cS hF rfl (fun hF=>?_) fun hF=>?_
    ·refine rg ?_
     refine Zw (M:=([e202.name]:List ByteArray)) (f:=csS) rfl rfl rfl rfl (Nat.le_of_ble_eq_true rfl) rfl (Za ?_)
     obtain ⟨l205,h146,hF⟩:=bnd hF
     refine Zaj (f:=csS) rfl h146 (fun _=>rfl) rfl rfl rfl rfl (Za ?_)
     refine rg ?_
     exact jn (true,l205) hF (sR [(2,1,2),(3,1,3),(5,1,5),(6,1,6),(10,6,4)])
    exact jn (x183,x185) hF (sR [(2,1,2),(3,1,3),(5,1,5),(6,1,6),(10,1,10)])
   obtain ⟨x200,x201⟩:=a
   subst hk27
   dsimp only at hF ⊢
   refine Za ?_
   refine rg ?_
   exact rn (mf26,x200,(w64 (x184+1)),x201) hF (sR [(2,1,2),(3,1,3),(5,1,5),(6,1,6),(10,1,10)])
  exact rn (mf23,x183,x185) hF (sR [(2,1,2),(3,1,3),(5,1,5),(6,1,6),(10,1,10)])
 refine rg ?_
 obtain ⟨r206,h147,hF⟩:=bnd hF
 refine Zqr (ZgG _ _ h147) rfl rfl rfl (Za ?_)
 refine rg ?_
 cases hF
 exact rQ
def Zbs (p0:State) (p1:ByteArray) (p2:Title):Option Bool:=
 (Zbn p0).bind fun r1=>
 (ZbN p0 p2).bind fun r2=>
 letk (fun (x5:Bool)=>
  (some x5:Option Bool)) fun k1=>
 if r2.2 then
  (Zbq r1 p1).bind fun r6=>
  (ZeF r1 r6 1 p2).bind fun r7=>
  k1 r7
 else
 k1 false
theorem Zhn (p0:State) (p1:ByteArray) (p2:Title) (r:Bool) (hF:Zbs p0 p1 p2=some r):Zb Tryz.prog 73 [p0.pv,.str p1,p2.pv] (.bool r):=by
 refine cF (fun r=>.bool r) hF mix Tryz.func73 fun r hF=>?_
 unfold Zbs at hF
 refine Za ?_
 refine rg ?_
 refine rg ?_
 obtain ⟨r1,h1,hF⟩:=bnd hF
 refine Zf (Zf5 _ _ h1) rfl rfl (Za ?_)
 refine rg ?_
 obtain ⟨r2,h2,hF⟩:=bnd hF
 refine Zf (Zdm _ _ _ h2) rfl rfl (Za ?_)
 refine jL hF (fun x5=>mkS [(6,.bool x5)] [] 2) (fun k1 hF=>?_) fun x5 hF=>?_
 ·refine rg ?_
  refine kS 19 hF rfl (fun hF=>?_) fun hF=>?_
  ·obtain ⟨r6,h5,hF⟩:=bnd hF
   refine Zf (Zgi _ _ _ h5) rfl rfl (Za ?_)
   obtain ⟨r7,h6,hF⟩:=bnd hF
   refine Zf (Zit _ _ _ _ _ h6) rfl rfl (Za ?_)
   exact jn r7 hF (sR [])
  iterate 6 refine Zh rfl (Za ?_)
  exact jn false hF (sR [])
 cases hF
 exact rQ
def ZbC (p0:List Item):Option (List Item):=
 (neL p0).bind fun u1=>
 (ZbY 72 [] p0).bind fun l2=>
 (some l2:Option (List Item))
theorem ZgH (p0:List Item) (r:List Item) (hF:ZbC p0=some r):Zb Tryz.prog 44 [.sl (List.map Item.cs p0)] (.sl (List.map Item.cs r)):=by
 refine cF (fun r=>.sl (List.map Item.cs r)) hF mix Tryz.func44 fun r hF=>?_
 unfold ZbC at hF
 refine Za ?_
 refine rg ?_
 refine rg ?_
 obtain ⟨u1,h1,hF⟩:=bnd hF
 refine Zrq rfl h1 rfl (Za ?_)
 refine ZE rfl rfl (Za ?_)
 refine rg ?_
 refine Zw (M:=([]:List Item)) (f:=Item.cs) rfl rfl rfl rfl (Nat.le_of_ble_eq_true rfl) rfl (Za ?_)
 obtain ⟨l2,h2,hF⟩:=bnd hF
 refine Zaj (f:=Item.cs) rfl h2 (fun _=>rfl) rfl rfl rfl rfl (Za ?_)
 cases hF
 exact rQ
end Go.Proofs.YtjoneoobolnnbaaGreatDoor
namespace Go.Proofs.YtjoneoobolnnbaaGreatDoor
open VL Go.RowKit
set_option maxHeartbeats 2000000 in
set_option maxRecDepth 100000 in
theorem Zni (a:Addr) (c:Nat) (w:World):Calls Tryz.prog 44 #[.slice (some a) 0 c] w fun e w'=>∃ v',e = .returned v'∧w'.ownsRow w.heap.size 52 6 v' 0 []∧Below w.heap.size w w':=by
 obtain ⟨i0,hi0⟩:∃ i,Tryz.prog.info? 52=some i:=⟨_,rfl⟩
 have q22:∀ (w:World) (a:Option Addr) (n c n' c':Nat),(binOp .eql 43 (.slice a n c) (.slice none n' c')).run Tryz.prog w = .ok (.bool a.isNone) w:=fun w a n c n' c'=>Lib.run_eql_slice_nil w _ 52 a n c n' c' (by kernel_rfl)
 have u22:∀ w,Sem.run Tryz.prog (underlying 43) w = .ok (TypeDesc.slice 52) w:=run_underlying (by kernel_rfl)
 go_enter Tryz.func44,Tryz.ntmps44
 go_wp2_with (at_builtin;refine wpList_append_own _ rfl _ _ 43 rfl w.heap.size 52 _ _ 6 _ (by kernel_rfl) rfl rfl rfl rfl rfl (by decide) _ _ _ rfl (World.ownsRow_made w #[] 0 (Nat.le_refl _) (Nat.zero_le _) (by simp)) a 0 c [] rfl ?qc1 ?qc2 ?qc3 ?qc4 ?qc5 ?qc6 ?_)
 case qc1=>rfl
 case qc2=>
  intro j u hj
  simp at hj
 case qc3=>simp
 case qc4=>simp [maxLen]
 case qc5=>simp
 case qc6=>simp
 intro v' w1 hown hgrow hnil
 go_wp2
 go_ret
 exact ⟨v',rfl,by simpa using hown,((Below.refl _ w).alloc (Nat.le_refl _) _).grown hgrow (by simp) (by intro k hk;simp [Value.ownBlock] at hk;omega)⟩
set_option maxHeartbeats 2000000 in
set_option maxRecDepth 100000 in
theorem Znj (c:Nat) (w:World):Calls Tryz.prog 44 #[.slice none 0 c] w fun e w'=>e = .returned (.slice none 0 0)∧Below w.heap.size w w':=by
 have q22:∀ (w:World) (a:Option Addr) (n c n' c':Nat),(binOp .eql 43 (.slice a n c) (.slice none n' c')).run Tryz.prog w = .ok (.bool a.isNone) w:=fun w a n c n' c'=>Lib.run_eql_slice_nil w _ 52 a n c n' c' (by kernel_rfl)
 go_enter Tryz.func44,Tryz.ntmps44
 go_wp2
 go_ret
 exact ⟨rfl,Below.refl _ _⟩
theorem Zr1:Zb Tryz.prog 44 [.sl []] (.sl []):=by
 refine ⟨by kernel_rfl,rfl,rfl,fun x vs hpre hI=>?_⟩
 obtain ⟨v,rfl⟩:∃ v,vs = #[v]:=by
  obtain ⟨l⟩:=vs
  have hs:=hpre.size
  match l,hs with
  | [v],_=>exact ⟨v,rfl⟩
  | [],hs=>simp at hs
  | _::_::_,hs=>simp at hs
 have hv:=hpre.rep 0 (.sl []) v rfl rfl
 have fin:∀ (w':World) (v':Value),Below x.W.heap.size x.W w'→(∀ y:Ctx,Rep y (.sl []) v')→∃ y v,y.W=w'∧Ending.returned v' = .returned v∧Post x y none (.sl []) [] v:=fun w' v' hb hr=>by
  have hF:∀ b o v,x.F b o→x.W.cell? ⟨b,o,none⟩=some v→w'.cell? ⟨b,o,none⟩=some v:=fun b o v hF hv=>(World.cell?_of_block (hb.block b (hpre.flt b o hF))).trans hv
  exact ⟨{ x with W:=w' },v',rfl,rfl,⟨fun _ h=>⟨h,rfl⟩,fun _ _ h=>h,hF⟩,⟨hb.os,hb.tape,hb.output,hb.size,fun b hlt _=>hb.block b hlt⟩,fun _ _ h=>.inl h,fun b o h=>Nat.lt_of_lt_of_le (hpre.flt b o h) hb.size,hr _,fun j os h=>by cases h⟩
 have slE:∀ (A:Option Addr) (c:Nat) (hm:c≤9223372036854775807) (y:Ctx),Rep y (.sl []) (.slice A 0 c):=fun A c hm y=>.sl [] A 0 c 0 0 0 (fun _ _=>undef) rfl (Nat.zero_le _) hm (by simp) (by omega) (fun i j e p he=>by simp at he) (fun i j e p he=>by simp at he)
 cases hv with
 | sl _ A n c k b off f hn hc hm hk hA hcell hh=>
 obtain rfl:n=0:=hn
 cases A with
 | none=>
   refine (Znj c x.W).mono ?_
   rintro e w' ⟨rfl,hb⟩
   exact fin w' _ hb (slE none 0 (by omega))
 | some a=>
   refine (Zni a c x.W).mono ?_
   rintro e w' ⟨v',rfl,hown,hb⟩
   refine fin w' v' hb ?_
   rcases hown.2 with ⟨hn,_⟩ | ⟨g,cap,cur,hv,_,_,_,hcap,_⟩
   ·rw [hn]
    exact slE none 0 (by omega)
   ·rw [hv]
    exact slE _ cap (by unfold maxLen at hcap;omega)
def Zbd (l:List Item):Option (List Item):=if l.length≤1000000 then some l else none
theorem Zr2 (l:List Item) (h0:l≠[]) (hl:l.length≤1000000):ZbC l=some l:=by
 unfold ZbC
 have e1:neL l=some ():=by
  unfold neL
  cases l with
  | nil=>exact absurd rfl h0
  | cons x l=>rfl
 rw [e1,Option.bind_some,Zrr l.length (by simp) (by omega) (by omega),Option.bind_some]
 rfl
theorem ZdR (l r:List Item) (h:Zbd l=some r):Zb Tryz.prog 44 [.sl (List.map Item.cs l)] (.sl (List.map Item.cs r)):=by
 unfold Zbd at h
 split at h
 ·rename_i hl
  injection h with h
  subst h
  by_cases h0:l = []
  ·subst h0
   exact Zr1
  ·exact ZgH l l (Zr2 l h0 hl)
 ·cases h
end Go.Proofs.YtjoneoobolnnbaaGreatDoor
namespace Go.Proofs.YtjoneoobolnnbaaGreatDoor
open VL
def Zee (p0:State) (p1:ByteArray):Option (List Title):=
 ZK Zax (fun f7 ((x23,x24):Int×(List Title))=>
  if (decide (x23<(p0.watches.length:Int))) then
   letk (fun (x32:List Title)=>
    f7 ((w64 (x23+1)),x32)) fun k8=>
   (atI p0.watches x23).bind fun e33=>
   if (decide (e33.user=p1)) then
    (ZbY 24 x24 [e33.title]).bind fun l34=>
    k8 l34
   else
   k8 x24
  else
  (some x24:Option (List Title))) (0,([]:List Title))
theorem ZgN (p0:State) (p1:ByteArray) (r:List Title) (hF:Zee p0 p1=some r):ContractN Tryz.prog 21 [p0.pv,.str p1] (.row 29 2 false (List.map Title.cs r)):=by
 refine Zg2 (O:=fun r=>.row 29 2 false (List.map Title.cs r)) hF mix Tryz.func21 (by kernel_rfl) rfl (by kernel_rfl) fun r hF=>?_
 unfold Zee at hF
 refine Za ?_
 refine rg ?_
 refine rg ?_
 refine rg ?_
 refine Zr rfl (M:=p0.watches) (f:=Watch.cs) rfl (Za ?_)
 refine bl ?_
 refine Zn hF fun f7 mf7 hf7 hF=>?_
 refine Zl (α:=Nat×(Int×(List Title))) (fun a _=>mkS [(1,.str p1),(5,.row 5 (1,5)),(9,.sl (List.map Watch.cs p0.watches)),(10,.int .i64 (p0.watches.length:Int)),(11,.int .i64 a.2.1)] [(5,some ((1,5),.row 29 2 false (List.map Title.cs a.2.2)))] 2) (fun a=>ZK a.1 f7 a.2=some r) (fun a=>a.1) (mf7,0,([]:List Title)) 2 hF (Za5 [] 5 29 2 rfl ⟨rfl,rfl,rfl,rfl,rfl,trivial⟩ ⟨⟨rfl,rfl⟩,trivial⟩ rfl) (fun a _ hF=>?_)
 obtain ⟨mf7,x23,x24⟩:=a
 obtain ⟨mf7,rfl,hF⟩:=Zo hf7 hF
 dsimp only at hF ⊢
 refine Za ?_
 refine rg ?_
 refine cS hF rfl (fun hF=>?_) fun hF=>?_
 ·refine jL hF (fun x32=>mkS [(1,.str p1),(5,.row 5 (1,5)),(9,.sl (List.map Watch.cs p0.watches)),(10,.int .i64 (p0.watches.length:Int)),(11,.int .i64 x23)] [(5,some ((1,5),.row 29 2 false (List.map Title.cs x32)))] 2) (fun k8 hF=>?_) fun x32 hF=>?_
  ·refine bl ?_
   refine rg ?_
   obtain ⟨e33,h23,hF⟩:=bnd hF
   refine Zk (f:=Watch.cs) rfl h23 rfl rfl rfl (Za ?_)
   refine rg ?_
   refine cS hF rfl (fun hF=>?_) fun hF=>?_
   ·refine rg ?_
    refine Zw (M:=([e33.title]:List Title)) (f:=Title.cs) rfl rfl rfl rfl (Nat.le_of_ble_eq_true rfl) rfl (Za ?_)
    obtain ⟨l34,h24,hF⟩:=bnd hF
    refine Zaj (f:=Title.cs) rfl h24 (fun _=>rfl) rfl rfl rfl rfl (Za ?_)
    exact jn l34 hF (sR [(5,5,4)])
   exact jn x24 hF (sR [(5,1,5)])
  refine rg ?_
  exact rn (mf7,(w64 (x23+1)),x32) hF (sR [(5,1,5)])
 refine rg ?_
 injection hF with hF
 subst hF
 exact Zqu (t:=5) (g:=(1,5)) (o2:=.row 29 2 false (List.map Title.cs x24)) rfl rfl rfl
end Go.Proofs.YtjoneoobolnnbaaGreatDoor
namespace Go.Proofs.YtjoneoobolnnbaaGreatDoor
namespace VL
theorem ZcM {p q:Prop} (k:q) (h:q→p:=by
 (intro k)
 (repeat (first
  | refine ZkR rfl rfl rfl ?_
  | refine ZoM rfl (by (conv=>lhs;whnf);try rfl) ?_
  | refine Zi0 rfl (by (conv=>lhs;whnf);try rfl) ?_
  | refine Zff rfl rfl ?_
  | refine Zpc rfl rfl rfl rfl (by (conv=>lhs;whnf);try rfl) ?_
  | refine Zsf rfl rfl rfl rfl (by (conv=>lhs;whnf);try rfl) ?_
  | refine ZhB rfl rfl rfl ?_
  | refine ZjC rfl rfl rfl (by (conv=>lhs;whnf);try rfl) (by (conv=>lhs;whnf);try rfl) (by rfl) (by rfl) (Nat.le_of_ble_eq_true rfl) (by (conv=>lhs;whnf);try rfl) ?_
  | refine ZrH rfl rfl ?_
  | refine Zsg rfl rfl ?_
  | refine ZoN rfl rfl (by (conv=>lhs;whnf);try rfl) ?_
  | refine ZlI rfl rfl rfl ?_
  | refine ZsX rfl (by (conv=>lhs;whnf);try rfl) (by (conv=>lhs;whnf);try rfl) (by rfl) ?_
  | refine ZjB rfl rfl ?_
  | refine Zsr rfl rfl ?_
  | refine ZoU rfl rfl ?_
  | refine ZoF rfl rfl ?_
  | refine ZoE rfl rfl rfl rfl ?_
  | refine Zk9 ?_
  | refine Zla (by kernel_rfl) ?_
  | refine Zlw ?_
  | refine ZiV ?_
  | refine Zlx ?_
  | refine ZiW ?_
  | refine Zlv ?_
  | refine Zly ?_
  | refine Zhs ?_
  | refine ZoG ?_
  | refine bk_other rfl ?_
  | refine Zlz ?_
  | refine ZoH ?_
  | refine jk_exit ?_
  | refine ZrG ?_
  | refine pws_label ?_))
 (exact k)):p:=h k
end VL
end Go.Proofs.YtjoneoobolnnbaaGreatDoor
namespace Go.Proofs.YtjoneoobolnnbaaGreatDoor
open VL
def ZdH (p0:State) (p1:ByteArray) (p2:List Title):Option (List Item):=
 ZK Zax (fun f17 ((x143,x144):Int×(List Num))=>
  if (decide (x143<(p2.length:Int))) then
   letk (fun (x197:List Num)=>
    f17 ((w64 (x143+1)),x197)) fun k19=>
   (atI p2 x143).bind fun e198=>
   (Zbs p0 p1 e198).bind fun r199=>
   if (!r199) then
    k19 x144
   else
   (ZbN p0 e198).bind fun r200=>
   ZK Zax (fun f20 ((x205,x206):Int×(List Num))=>
    if (decide (x205<(r200.1.history.length:Int))) then
     (atI r200.1.history x205).bind fun e213=>
     (ZbY 80 x206 [(⟨(⟨e198,e213.number,e213.user,e213.note,e213.minute⟩:Item),e213.seq⟩:Num)]).bind fun l214=>
     f20 ((w64 (x205+1)),l214)
    else
    k19 x206) (0,x144)
  else
  (ZV x144).bind fun r215=>
  ZK Zax (fun f22 ((x234,x235):Int×(List Item))=>
   if (decide (x234<(r215.length:Int))) then
    (atI r215 x234).bind fun e242=>
    (ZbY 72 x235 [e242.item]).bind fun l243=>
    f22 ((w64 (x234+1)),l243)
   else
   (some x235:Option (List Item))) (0,([]:List Item))) (0,([]:List Num))
theorem Zis (p0:State) (p1:ByteArray) (p2:List Title) (r:List Item) (hF:ZdH p0 p1 p2=some r):ContractN Tryz.prog 42 [p0.pv,.str p1,.sl (List.map Title.cs p2)] (.row 52 6 false (List.map Item.cs r)):=by
 refine Zg2 (O:=fun r=>.row 52 6 false (List.map Item.cs r)) hF mix Tryz.func42 (by kernel_rfl) rfl (by kernel_rfl) fun r hF=>?_
 unfold ZdH at hF
 refine ZcM ?_
 refine Zu (ZcM ?_)
 refine Zu (ZcM ?_)
 refine Zu (ZcM ?_)
 refine Zr rfl (M:=p2) (f:=Title.cs) rfl (ZcM ?_)
 refine Zcx (ZcM ?_)
 refine Zn hF fun f17 mf17 hf17 hF=>?_
 refine Zl (α:=Nat×(Int×(List Num))) (fun a _=>mkS [(1,.str p1),(3,.ptr 3 (1,3) 0),(7,.row 7 (1,7)),(17,.sl (List.map Title.cs p2)),(18,.int .i64 (p2.length:Int)),(19,.int .i64 a.2.1)] [(3,some ((1,3),.box [.int .i64 p0.seq,.int .i64 p0.clock,.sl (List.map Stored.cs p0.pages),.sl (List.map Stored.cs p0.gone),.sl (List.map Proposal.cs p0.proposals),.int .i64 p0.proposed,.sl (List.map Watch.cs p0.watches),.sl (List.map Last.cs p0.lasts)])),(7,some ((1,7),.row 123 7 false (List.map Num.cs a.2.2)))] 2) (fun a=>ZK a.1 f17 a.2=some r) (fun a=>a.1) (mf17,0,([]:List Num)) 2 hF (Za5 [((1,3),(1,0))] 7 123 7 rfl ⟨rfl,rfl,rfl,rfl,rfl,rfl,trivial⟩ ⟨⟨rfl,rfl⟩,⟨rfl,rfl⟩,trivial⟩ rfl) (fun a _ hF=>?_)
 obtain ⟨mf17,x143,x144⟩:=a
 obtain ⟨mf17,rfl,hF⟩:=Zo hf17 hF
 dsimp only at hF ⊢
 refine ZcM ?_
 refine Zu (ZcM ?_)
 refine ZaV rfl (fun h=>ZcM ?_) (fun h=>ZcM ?_)
 ·replace hF:=ifT h hF
  refine Zar hF fun k19 hk19 hF=>?_
  refine ZaF (α:=List Num) (fun x197 _=>mkS [(1,.str p1),(3,.ptr 3 (1,3) 0),(7,.row 7 (1,7)),(17,.sl (List.map Title.cs p2)),(18,.int .i64 (p2.length:Int)),(19,.int .i64 x143)] [(3,some ((1,3),.box [.int .i64 p0.seq,.int .i64 p0.clock,.sl (List.map Stored.cs p0.pages),.sl (List.map Stored.cs p0.gone),.sl (List.map Proposal.cs p0.proposals),.int .i64 p0.proposed,.sl (List.map Watch.cs p0.watches),.sl (List.map Last.cs p0.lasts)])),(7,some ((1,7),.row 123 7 false (List.map Num.cs x197)))] 2) (fun x197=>k19 x197=some r) (ZcM ?_) (fun a _ hF=>?_)
  ·refine Zcx (ZcM ?_)
   refine Zu (ZcM ?_)
   obtain ⟨e198,h166,hF⟩:=bnd hF
   refine Zk (f:=Title.cs) rfl h166 rfl rfl rfl (ZcM ?_)
   refine Zu (ZcM ?_)
   obtain ⟨r199,h167,hF⟩:=bnd hF
   refine Zf (Zhn _ _ _ _ h167) rfl rfl (ZcM ?_)
   refine ZaV rfl (fun h=>ZcM ?_) (fun h=>ZcM ?_)
   ·replace hF:=ifT h hF
    exact ZaP x144 2 hF (Zt [((1,3),(1,3)),((1,7),(1,7))] ⟨rfl,rfl,rfl,rfl,rfl,rfl,trivial⟩ ⟨⟨rfl,rfl⟩,⟨rfl,rfl⟩,trivial⟩ rfl)
   replace hF:=ifF h hF
   refine Zu (ZcM ?_)
   obtain ⟨r200,h168,hF⟩:=bnd hF
   refine Zf (Zdm _ _ _ h168) rfl rfl (ZcM ?_)
   refine Zu (ZcM ?_)
   refine Zr rfl (M:=r200.1.history) (f:=Revision.cs) rfl (ZcM ?_)
   refine Zcx (ZcM ?_)
   refine Zn hF fun f20 mf20 hf20 hF=>?_
   refine Zl (α:=Nat×(Int×(List Num))) (fun a _=>mkS [(1,.str p1),(3,.ptr 3 (1,3) 0),(7,.row 7 (1,7)),(9,.ptr 9 (1,9) 0),(17,.sl (List.map Title.cs p2)),(18,.int .i64 (p2.length:Int)),(19,.int .i64 x143),(35,.sl (List.map Revision.cs r200.1.history)),(36,.int .i64 (r200.1.history.length:Int)),(37,.int .i64 a.2.1)] [(3,some ((1,3),.box [.int .i64 p0.seq,.int .i64 p0.clock,.sl (List.map Stored.cs p0.pages),.sl (List.map Stored.cs p0.gone),.sl (List.map Proposal.cs p0.proposals),.int .i64 p0.proposed,.sl (List.map Watch.cs p0.watches),.sl (List.map Last.cs p0.lasts)])),(7,some ((1,7),.row 123 7 false (List.map Num.cs a.2.2))),(9,some ((1,9),.box [.int .i64 e198.space,.str e198.name]))] 2) (fun a=>ZK a.1 f20 a.2=some r) (fun a=>a.1) (mf20,0,x144) 2 hF (Zt [((1,3),(1,3)),((1,7),(1,7)),((1,9),(3,2))] ⟨rfl,rfl,rfl,rfl,rfl,rfl,rfl,rfl,rfl,rfl,trivial⟩ ⟨⟨rfl,rfl⟩,⟨rfl,rfl⟩,⟨rfl,rfl⟩,trivial⟩ rfl) (fun a _ hF=>?_)
   obtain ⟨mf20,x205,x206⟩:=a
   obtain ⟨mf20,rfl,hF⟩:=Zo hf20 hF
   dsimp only at hF ⊢
   refine ZcM ?_
   refine Zu (ZcM ?_)
   refine ZaV rfl (fun h=>ZcM ?_) (fun h=>ZcM ?_)
   ·replace hF:=ifT h hF
    refine Zcx (ZcM ?_)
    refine Zu (ZcM ?_)
    obtain ⟨e213,h179,hF⟩:=bnd hF
    refine Zk (f:=Revision.cs) rfl h179 rfl rfl rfl (ZcM ?_)
    refine Zu (ZcM ?_)
    refine ZjD (cs:=[.int .i64 e198.space,.str e198.name,.int .i64 e213.number,.str e213.user,.str e213.note,.int .i64 e213.minute]) rfl (by kernel_rfl) (ZcM ?_)
    refine ZjD (cs:=[.int .i64 e198.space,.str e198.name,.int .i64 e213.number,.str e213.user,.str e213.note,.int .i64 e213.minute,.int .i64 e213.seq]) rfl (by kernel_rfl) (ZcM ?_)
    refine Zw (M:=([(⟨(⟨e198,e213.number,e213.user,e213.note,e213.minute⟩:Item),e213.seq⟩:Num)]:List Num)) (f:=Num.cs) rfl rfl rfl rfl (Nat.le_of_ble_eq_true rfl) rfl (ZcM ?_)
    obtain ⟨l214,h180,hF⟩:=bnd hF
    refine Zaj (f:=Num.cs) rfl h180 (fun _=>rfl) rfl rfl rfl rfl (ZcM ?_)
    refine Zu (ZcM ?_)
    exact ZJ (mf20,(w64 (x205+1)),l214) 2 hF (Nat.lt_succ_self mf20) (Zt [((1,3),(1,3)),((1,7),(4,15)),((1,9),(1,9))] ⟨rfl,rfl,rfl,rfl,rfl,rfl,rfl,rfl,rfl,rfl,trivial⟩ ⟨⟨rfl,rfl⟩,⟨rfl,rfl⟩,⟨rfl,rfl⟩,trivial⟩ rfl)
   replace hF:=ifF h hF
   exact ZaP x206 2 hF (Zt [((1,3),(1,3)),((1,7),(1,7))] ⟨rfl,rfl,rfl,rfl,rfl,rfl,trivial⟩ ⟨⟨rfl,rfl⟩,⟨rfl,rfl⟩,trivial⟩ rfl)
  revert a;intro x197 hF
  subst hk19
  dsimp only at hF ⊢
  refine ZcM ?_
  refine Zu (ZcM ?_)
  exact ZJ (mf17,(w64 (x143+1)),x197) 2 hF (Nat.lt_succ_self mf17) (Zt [((1,3),(1,3)),((1,7),(1,7))] ⟨rfl,rfl,rfl,rfl,rfl,rfl,trivial⟩ ⟨⟨rfl,rfl⟩,⟨rfl,rfl⟩,trivial⟩ rfl)
 replace hF:=ifF h hF
 refine Zu (ZcM ?_)
 obtain ⟨r215,h181,hF⟩:=bnd hF
 refine ZbW (ZcO _ _ h181) rfl rfl rfl rfl rfl (ZcM ?_)
 refine Zu (ZcM ?_)
 refine Zu (ZcM ?_)
 refine Zr rfl (M:=r215) (f:=Num.cs) rfl (ZcM ?_)
 refine Zcx (ZcM ?_)
 refine Zn hF fun f22 mf22 hf22 hF=>?_
 refine Zl (α:=Nat×(Int×(List Item))) (fun a _=>mkS [(14,.row 14 (1,14)),(61,.row 7 (1,7)),(62,.int .i64 (r215.length:Int)),(63,.int .i64 a.2.1)] [(7,some ((1,7),.row 123 7 false (List.map Num.cs r215))),(14,some ((1,14),.row 52 6 false (List.map Item.cs a.2.2)))] 2) (fun a=>ZK a.1 f22 a.2=some r) (fun a=>a.1) (mf22,0,([]:List Item)) 2 hF (Za5 [((1,7),(1,7))] 14 52 6 rfl ⟨rfl,rfl,rfl,rfl,trivial⟩ ⟨⟨rfl,rfl⟩,⟨rfl,rfl⟩,trivial⟩ rfl) (fun a _ hF=>?_)
 obtain ⟨mf22,x234,x235⟩:=a
 obtain ⟨mf22,rfl,hF⟩:=Zo hf22 hF
 dsimp only at hF ⊢
 refine ZcM ?_
 refine Zu (ZcM ?_)
 refine ZaV rfl (fun h=>ZcM ?_) (fun h=>ZcM ?_)
 ·replace hF:=ifT h hF
  refine Zcx (ZcM ?_)
  refine Zu (ZcM ?_)
  obtain ⟨e242,h204,hF⟩:=bnd hF
  refine ZB rfl h204 rfl rfl rfl (ZcM ?_)
  refine Zai rfl h204 rfl rfl rfl (ZcM ?_)
  refine Zu (ZcM ?_)
  refine Zw (M:=([e242.item]:List Item)) (f:=Item.cs) rfl rfl rfl rfl (Nat.le_of_ble_eq_true rfl) rfl (ZcM ?_)
  obtain ⟨l243,h205,hF⟩:=bnd hF
  refine Zaj (f:=Item.cs) rfl h205 (fun _=>rfl) rfl rfl rfl rfl (ZcM ?_)
  refine Zu (ZcM ?_)
  exact ZJ (mf22,(w64 (x234+1)),l243) 2 hF (Nat.lt_succ_self mf22) (Zt [((1,7),(1,7)),((1,14),(4,4))] ⟨rfl,rfl,rfl,rfl,trivial⟩ ⟨⟨rfl,rfl⟩,⟨rfl,rfl⟩,trivial⟩ rfl)
 replace hF:=ifF h hF
 refine Zu (ZcM ?_)
 injection hF with hF
 subst hF
 exact Zqu (t:=14) (g:=(1,14)) (o2:=.row 52 6 false (List.map Item.cs x235)) rfl rfl rfl
def Za1 (p0:List Item):Option (List Item):=
 ZK Zax (fun f1 ((x9,x10,x11):Int×Int×(List Item))=>
  if (decide (x9<x10)) then
   (atI x11 x10).bind fun e24=>
   (atI x11 x9).bind fun e25=>
   (atI x11 x9).bind fun e26=>
   (atI (ZbI x11 x9 e24) x10).bind fun e27=>
   f1 ((w64 (x9+1)),(w64 (x10 - 1)),(ZbI (ZbI x11 x9 e24) x10 e25))
  else
  (some x11:Option (List Item))) (0,(w64 ((p0.length:Int) - 1)),p0)
theorem Zgh (p0:List Item) (r:List Item) (hF:Za1 p0=some r):ContractR Tryz.prog 45 [] 52 6 (List.map Item.cs p0) (.tup []) (List.map Item.cs r):=by
 refine ZaK (R:=fun r=>.tup []) (O:=fun r=>(List.map Item.cs r)) hF mix Tryz.func45 (by kernel_rfl) rfl (by kernel_rfl) fun r hF=>?_
 unfold Za1 at hF
 refine Za ?_
 refine rg ?_
 refine Zr rfl (M:=p0) (f:=Item.cs) rfl (Za ?_)
 refine bl ?_
 refine Zn hF fun f1 mf1 hf1 hF=>?_
 refine Zl (α:=Nat×(Int×Int×(List Item))) (fun a _=>mkS [(0,.row 0 (0,0)),(2,.int .i64 a.2.1),(3,.int .i64 a.2.2.1)] [(0,some ((0,0),.row 52 6 false (List.map Item.cs a.2.2.2)))] 2) (fun a=>ZK a.1 f1 a.2=some r) (fun a=>a.1) (mf1,0,(w64 ((p0.length:Int) - 1)),p0) 2 hF (sR []) (fun a _ hF=>?_)
 obtain ⟨mf1,x9,x10,x11⟩:=a
 obtain ⟨mf1,rfl,hF⟩:=Zo hf1 hF
 dsimp only at hF ⊢
 refine Za ?_
 refine rg ?_
 refine cS hF rfl (fun hF=>?_) fun hF=>?_
 ·refine bl ?_
  refine rg ?_
  obtain ⟨e24,h21,hF⟩:=bnd hF
  refine ZB rfl h21 rfl rfl rfl (Za ?_)
  refine Zai rfl h21 rfl rfl rfl (Za ?_)
  obtain ⟨e25,h22,hF⟩:=bnd hF
  refine ZB rfl h22 rfl rfl rfl (Za ?_)
  refine Zai rfl h22 rfl rfl rfl (Za ?_)
  obtain ⟨e26,h23,hF⟩:=bnd hF
  refine ZB rfl h23 rfl rfl rfl (Za ?_)
  refine ZaJ (e':=e24) rfl h23 rfl rfl rfl rfl rfl rfl (Nat.le_of_ble_eq_true rfl) rfl rfl (Za ?_)
  obtain ⟨e27,h24,hF⟩:=bnd hF
  refine ZB rfl h24 rfl rfl rfl (Za ?_)
  refine ZaJ (e':=e25) rfl h24 rfl rfl rfl rfl rfl rfl (Nat.le_of_ble_eq_true rfl) rfl rfl (Za ?_)
  refine rg ?_
  exact rn (mf1,(w64 (x9+1)),(w64 (x10 - 1)),(ZbI (ZbI x11 x9 e24) x10 e25)) hF (sR [])
 cases hF
 exact Zb0 rfl rfl rfl
def Zch (p0:State) (p1:ByteArray) (p2:Int):Option (List Item):=
 ZK Zax (fun f2 ((x19,x20):Int×(List Title))=>
  if (decide (x19<(p0.pages.length:Int))) then
   (atI p0.pages x19).bind fun e27=>
   (ZbY 24 x20 [e27.title]).bind fun l28=>
   f2 ((w64 (x19+1)),l28)
  else
  (ZeO x20).bind fun r29=>
  (ZdH p0 p1 r29).bind fun r30=>
  (Za1 r30).bind fun r31=>
  (Zin r31 0 (if (if (r31.length:Int)<p2 then (r31.length:Int) else p2) > 0 then (if (r31.length:Int)<p2 then (r31.length:Int) else p2) else 0)).bind fun l32=>
  (Zbd l32).bind fun r33=>
  (some r33:Option (List Item))) (0,([]:List Title))
theorem Zfu (p0:State) (p1:ByteArray) (p2:Int) (r:List Item) (hF:Zch p0 p1 p2=some r):Zb Tryz.prog 18 [p0.pv,.str p1,.int .i64 p2] (.sl (List.map Item.cs r)):=by
 refine cF (fun r=>.sl (List.map Item.cs r)) hF mix Tryz.func18 fun r hF=>?_
 unfold Zch at hF
 refine Za ?_
 refine rg ?_
 refine rg ?_
 refine rg ?_
 refine Zr rfl (M:=p0.pages) (f:=Stored.cs) rfl (Za ?_)
 refine bl ?_
 refine Zn hF fun f2 mf2 hf2 hF=>?_
 refine Zl (α:=Nat×(Int×(List Title))) (fun a _=>mkS [(1,.str p1),(2,.int .i64 p2),(3,.ptr 3 (1,3) 0),(7,.row 7 (1,7)),(12,.sl (List.map Stored.cs p0.pages)),(13,.int .i64 (p0.pages.length:Int)),(14,.int .i64 a.2.1)] [(3,some ((1,3),.box [.int .i64 p0.seq,.int .i64 p0.clock,.sl (List.map Stored.cs p0.pages),.sl (List.map Stored.cs p0.gone),.sl (List.map Proposal.cs p0.proposals),.int .i64 p0.proposed,.sl (List.map Watch.cs p0.watches),.sl (List.map Last.cs p0.lasts)])),(7,some ((1,7),.row 29 2 false (List.map Title.cs a.2.2)))] 2) (fun a=>ZK a.1 f2 a.2=some r) (fun a=>a.1) (mf2,0,([]:List Title)) 2 hF (Za5 [((1,3),(1,0))] 7 29 2 rfl ⟨rfl,rfl,rfl,rfl,rfl,rfl,rfl,trivial⟩ ⟨⟨rfl,rfl⟩,⟨rfl,rfl⟩,trivial⟩ rfl) (fun a _ hF=>?_)
 obtain ⟨mf2,x19,x20⟩:=a
 obtain ⟨mf2,rfl,hF⟩:=Zo hf2 hF
 dsimp only at hF ⊢
 refine Za ?_
 refine rg ?_
 refine cS hF rfl (fun hF=>?_) fun hF=>?_
 ·refine bl ?_
  refine rg ?_
  obtain ⟨e27,h23,hF⟩:=bnd hF
  refine Zk (f:=Stored.cs) rfl h23 rfl rfl rfl (Za ?_)
  refine rg ?_
  refine Zw (M:=([e27.title]:List Title)) (f:=Title.cs) rfl rfl rfl rfl (Nat.le_of_ble_eq_true rfl) rfl (Za ?_)
  obtain ⟨l28,h24,hF⟩:=bnd hF
  refine Zaj (f:=Title.cs) rfl h24 (fun _=>rfl) rfl rfl rfl rfl (Za ?_)
  refine rg ?_
  exact rn (mf2,(w64 (x19+1)),l28) hF (sR [(3,1,3),(7,4,4)])
 refine rg ?_
 obtain ⟨r29,h25,hF⟩:=bnd hF
 refine Zlr (ZjP _ _ h25) rfl rfl rfl rfl (Za ?_)
 obtain ⟨r30,h26,hF⟩:=bnd hF
 refine Zev (Zis _ _ _ _ h26) rfl rfl (Za ?_)
 refine rg ?_
 obtain ⟨r31,h27,hF⟩:=bnd hF
 refine ZbW (Zgh _ _ h27) rfl rfl rfl rfl rfl (Za ?_)
 refine rg ?_
 refine Zr rfl (M:=r31) (f:=Item.cs) rfl (Za ?_)
 refine Zqv rfl rfl rfl (Za ?_)
 refine Zss rfl rfl rfl (Za ?_)
 obtain ⟨l32,h28,hF⟩:=bnd hF
 refine Zbp (f:=Item.cs) rfl h28 (fun _=>rfl) rfl rfl rfl rfl (Za ?_)
 obtain ⟨r33,h29,hF⟩:=bnd hF
 refine Zf (ZdR _ _ h29) rfl rfl (Za ?_)
 cases hF
 exact rQ
def ZhP (p0:State) (p1:ByteArray) (p2:Int):Option (List Item):=
 (Zee p0 p1).bind fun r1=>
 (ZeO r1).bind fun r2=>
 (ZdH p0 p1 r2).bind fun r3=>
 (Zin r3 (if (if (r3.length:Int)<p2 then (r3.length:Int) else p2) > 0 then (if (r3.length:Int)<p2 then (r3.length:Int) else p2) else 0) (r3.length:Int)).bind fun l4=>
 (Zbd l4).bind fun r5=>
 (some r5:Option (List Item))
theorem Zke (p0:State) (p1:ByteArray) (p2:Int) (r:List Item) (hF:ZhP p0 p1 p2=some r):Zb Tryz.prog 17 [p0.pv,.str p1,.int .i64 p2] (.sl (List.map Item.cs r)):=by
 refine cF (fun r=>.sl (List.map Item.cs r)) hF mix Tryz.func17 fun r hF=>?_
 unfold ZhP at hF
 refine Za ?_
 refine rg ?_
 refine rg ?_
 obtain ⟨r1,h1,hF⟩:=bnd hF
 refine Zev (ZgN _ _ _ h1) rfl rfl (Za ?_)
 obtain ⟨r2,h2,hF⟩:=bnd hF
 refine Zlr (ZjP _ _ h2) rfl rfl rfl rfl (Za ?_)
 obtain ⟨r3,h3,hF⟩:=bnd hF
 refine Zev (Zis _ _ _ _ h3) rfl rfl (Za ?_)
 refine rg ?_
 refine Zr rfl (M:=r3) (f:=Item.cs) rfl (Za ?_)
 refine Zqv rfl rfl rfl (Za ?_)
 refine Zss rfl rfl rfl (Za ?_)
 obtain ⟨l4,h4,hF⟩:=bnd hF
 refine Zbp (f:=Item.cs) rfl h4 (fun _=>rfl) rfl rfl rfl rfl (Za ?_)
 obtain ⟨r5,h5,hF⟩:=bnd hF
 refine Zf (ZdR _ _ h5) rfl rfl (Za ?_)
 cases hF
 exact rQ
end Go.Proofs.YtjoneoobolnnbaaGreatDoor
namespace Go.Proofs.YtjoneoobolnnbaaGreatDoor
open VL Go.RowKit
def strings_genSplit (s c:ByteArray) (a b:Int):Option (List ByteArray):=if (s.size<4294967281∧1≤c.size)∧Lib.countB s c≤1000000∧b = -1∧0≤a∧a≤(c.size:Int) then some (Lib.splitB c a.toNat (Lib.countB s c) s) else none
theorem Zhr (s c:ByteArray) (a b:Int) (r:List ByteArray) (h:strings_genSplit s c a b=some r):ContractN Tryz.prog 154 [.str s,.str c,.int .i64 a,.int .i64 b] (.row 9 1 false (List.map csS r)):=by
 unfold strings_genSplit at h
 split at h
 ·rename_i hc
  obtain ⟨⟨h1,h2⟩,h3,rfl,h5,h6⟩:=hc
  obtain ⟨sv,rfl⟩:∃ sv:Nat,a=(sv:Int):=⟨a.toNat,by omega⟩
  rw [Int.toNat_natCast] at h
  injection h with h
  have hlen:r.length=Lib.countB s c+1:=by rw [← h];exact Lib.splitB_all c h2 sv _ s rfl
  have hle:=Lib.countB_le c h2 s.size s (Nat.le_refl _)
  refine Zfo (α:=ByteArray) (vals:=[.string s,.string c,.int .i64 (sv:Int),.int .i64 (-1)]) (enc:=fun x=>[.string x]) (by kernel_rfl) rfl (fun x=>rfl) (fun S w x cs h=>h) (fun x=>rfl) fun w hw=>?_
  obtain ⟨m,hm⟩:=hw.1
  refine (Tryz.strings_genSplit s c sv (-1) (Lib.countB s c+1) m w h1 hm h2 (by omega) (by decide) (by decide) (by rw [if_pos (by decide)];omega)).mono ?_
  rintro e w' ⟨rfl,rfl⟩
  rw [Nat.add_sub_cancel,h]
  have e2:Lib.cellsOf r (Lib.countB s c+1)=(r.map Value.string).toArray:=by rw [← hlen];exact Lib.cellsOf_full _
  rw [e2,hlen]
  refine ⟨_,rfl,OwnL.of_row ⟨by simp,.inr ⟨w.heap.size,r.length,_,by rw [hlen],Nat.le_refl _,heap_alloc_new w _,Nat.le_refl _,?_,by simp,?_⟩⟩,Below.al (Below.refl _ _) _⟩
  ·unfold maxLen;omega
  ·rw [Nat.mul_one,List.take_of_length_le (by simp)]
 ·cases h
end Go.Proofs.YtjoneoobolnnbaaGreatDoor
