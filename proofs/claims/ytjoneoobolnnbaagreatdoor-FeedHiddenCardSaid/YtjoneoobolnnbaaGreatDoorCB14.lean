/- Functions of the program as Lean functions. Written by fxgen.py. -/
import Derived.Test.YtjoneoobolnnbaaGreatDoorCB10
import Derived.Test.YtjoneoobolnnbaaGreatDoorCB04
import Derived.Test.YtjoneoobolnnbaaGreatDoorCB13
import Derived.Test.YtjoneoobolnnbaaGreatDoorCB03
import Derived.Test.YtjoneoobolnnbaaGreatDoorCB08
import Derived.Laws.AppendOwn
import Derived.Lib.SliceRun
import Derived.Test.YtjoneoobolnnbaaGreatDoorCB05
import Derived.Test.YtjoneoobolnnbaaGreatDoorCB06
set_option maxHeartbeats 4000000
set_option maxRecDepth 100000
set_option linter.unusedVariables false
namespace Go.Proofs.YtjoneoobolnnbaaGreatDoor
open VL
def Zd1 (p0:ByteArray) (p1:Bool) (p2:ByteArray) (p3:List ByteArray):Option Bool:=
 letk (fun (x7:Bool)=>
  (some x7:Option Bool)) fun k1=>
 if p1 then
  if (decide (p0=p2)) then
   k1 true
  else
  if (decide (0<(p0.size:Int))) then
   (atS p0 0).bind fun c8=>
   if (decide (c8=64)) then
    (Zge p0 1 (p0.size:Int)).bind fun l9=>
    (slices_Contains_string p3 l9).bind fun r10=>
    k1 r10
   else
   k1 false
  else
  k1 false
 else
 if (decide (0<(p0.size:Int))) then
  (atS p0 0).bind fun c11=>
  if (decide (c11=64)) then
   (Zge p0 1 (p0.size:Int)).bind fun l12=>
   (slices_Contains_string p3 l12).bind fun r13=>
   k1 r13
  else
  k1 false
 else
 k1 false
theorem ZkU (p0:ByteArray) (p1:Bool) (p2:ByteArray) (p3:List ByteArray) (r:Bool) (h:Zd1 p0 p1 p2 p3=some r):Zd Tryz.prog 110 [.str p0,.cel [.bool p1],.cel [.str p2],.cel [.sl (List.map csS p3)]] (.bool r):=by
 refine cF (fun r=>.bool r) h mix Tryz.func110 fun r h=>?_
 unfold Zd1 at h
 refine Zh ?_
 refine rg ?_
 refine jL h (fun x7=>mkS [(5,.bool x7)] [] 2) (fun k1 h=>?_) fun x7 h=>?_
 ·refine rg ?_
  refine kS 7 h rfl (fun h=>?_) fun h=>?_
  ·refine kS 12 h rfl (fun h=>?_) fun h=>?_
   ·iterate 14 refine Zi rfl (Zh ?_)
    exact jn true h (sR [])
   refine kS 16 h rfl (fun h=>?_) fun h=>?_
   ·refine aS h fun c8 h=>?_
    refine kS 21 h rfl (fun h=>?_) fun h=>?_
    ·refine sS h fun l9 h=>?_
     refine aC h (Zb1 _ _) fun r10 h=>?_
     exact jn r10 h (sR [])
    iterate 4 refine Zi rfl (Zh ?_)
    exact jn false h (sR [])
   iterate 7 refine Zi rfl (Zh ?_)
   exact jn false h (sR [])
  iterate 3 refine Zi rfl (Zh ?_)
  refine kS 16 h rfl (fun h=>?_) fun h=>?_
  ·refine aS h fun c11 h=>?_
   refine kS 21 h rfl (fun h=>?_) fun h=>?_
   ·refine sS h fun l12 h=>?_
    refine aC h (Zb1 _ _) fun r13 h=>?_
    exact jn r13 h (sR [])
   iterate 4 refine Zi rfl (Zh ?_)
   exact jn false h (sR [])
  iterate 7 refine Zi rfl (Zh ?_)
  exact jn false h (sR [])
 cases h
 exact rQ
def Zbp (p0:Policy) (p1:ByteArray):Option (List ByteArray):=
 (Zcn p1).bind fun r1=>
 letk (fun (x3:List ByteArray)=>
  ZE Zaj (fun f23 ((x138,x139):Bool×(List ByteArray))=>
   if x138 then
    ZE Zaj (fun f26 ((x183,x184,x185):Bool×Int×(List ByteArray))=>
     if (decide (x184<(p0.groups.length:Int))) then
      letk (fun (x200:Bool) (x201:List ByteArray)=>
       f26 (x200,(w64 (x184+1)),x201)) fun k27=>
      (atI p0.groups x184).bind fun e202=>
      (slices_Contains_string x185 e202.name).bind fun r203=>
      if r203 then
       k27 x183 x185
      else
      (ZbF e202.members (fun y0=>Zd1 y0 r1 p1 x185)).bind fun r204=>
      if r204 then
       (ZcF 16 x185 [e202.name]).bind fun l205=>
       k27 true l205
      else
      k27 x183 x185
     else
     f23 (x183,x185)) (false,0,x139)
   else
   (slices_Sort_string x139).bind fun r206=>
   (some r206:Option (List ByteArray))) (true,x3)) fun k1=>
 if r1 then
  (ZcF 16 [(⟨#[97,108,108]⟩:ByteArray)] [(⟨#[117,115,101,114,115]⟩:ByteArray)]).bind fun l207=>
  k1 l207
 else
 k1 [(⟨#[97,108,108]⟩:ByteArray)]
theorem Zim (p0:Policy) (p1:ByteArray) (r:List ByteArray) (h:Zbp p0 p1=some r):Zd Tryz.prog 60 [p0.pv,.str p1] (.sl (List.map csS r)):=by
 refine cF (fun r=>.sl (List.map csS r)) h mix Tryz.func60 fun r h=>?_
 unfold Zbp at h
 refine Zh ?_
 refine rg ?_
 refine rg ?_
 refine bM csS ([(⟨#[97,108,108]⟩:ByteArray)]:List ByteArray) ?_
 refine rg ?_
 refine aC h (ZdY _) fun r1 h=>?_
 refine rg ?_
 refine jL h (fun x3=>mkS [(2,.ptr 2 (1,2) 0),(3,.ptr 3 (1,3) 0),(5,.ptr 5 (1,5) 0),(6,.ptr 6 (1,6) 0)] [(2,some ((1,2),.box (Policy.cs p0))),(3,some ((1,3),.box [.str p1])),(5,some ((1,5),.box [.row 10 (1,10)])),(6,some ((1,6),.box [.bool r1])),(10,some ((1,10),.row 9 1 false (List.map csS x3)))] 2) (fun k1 h=>?_) fun x3 h=>?_
 ·refine cS h rfl (fun h=>?_) fun h=>?_
  ·refine rg ?_
   refine bM csS ([(⟨#[117,115,101,114,115]⟩:ByteArray)]:List ByteArray) ?_
   refine pR csS h fun l207 h=>?_
   exact jn l207 h (sR [(2,1,0),(3,1,1),(5,2,1),(6,3,2),(10,5,2)])
  exact jn [(⟨#[97,108,108]⟩:ByteArray)] h (sR [(2,1,0),(3,1,1),(5,2,1),(6,3,2),(10,2,0)])
 refine rg ?_
 refine bl ?_
 refine Zn h fun f23 mf23 hf23 h=>?_
 refine Zk (α:=Nat×(Bool×(List ByteArray))) (fun a _=>mkS [(2,.ptr 2 (1,2) 0),(3,.ptr 3 (1,3) 0),(5,.ptr 5 (1,5) 0),(6,.ptr 6 (1,6) 0),(7,.bool a.2.1)] [(2,some ((1,2),.box (Policy.cs p0))),(3,some ((1,3),.box [.str p1])),(5,some ((1,5),.box [.row 10 (1,10)])),(6,some ((1,6),.box [.bool r1])),(10,some ((1,10),.row 9 1 false (List.map csS a.2.2)))] 2) (fun a=>ZE a.1 f23 a.2=some r) (fun a=>a.1) (mf23,true,x3) 2 h (sR [(2,1,2),(3,1,3),(5,1,5),(6,1,6),(10,1,10)]) (fun a _ h=>?_)
 obtain ⟨mf23,x138,x139⟩:=a
 obtain ⟨mf23,rfl,h⟩:=Zo hf23 h
 dsimp only at h ⊢
 refine Zh ?_
 refine rg ?_
 refine cS h rfl (fun h=>?_) fun h=>?_
 ·refine bl ?_
  refine rg ?_
  refine rg ?_
  refine lM Group.cs p0.groups ?_
  refine bl ?_
  refine Zn h fun f26 mf26 hf26 h=>?_
  refine Zk (α:=Nat×(Bool×Int×(List ByteArray))) (fun a _=>mkS [(2,.ptr 2 (1,2) 0),(3,.ptr 3 (1,3) 0),(5,.ptr 5 (1,5) 0),(6,.ptr 6 (1,6) 0),(7,.bool a.2.1),(19,.sl (List.map Group.cs p0.groups)),(20,.int .i64 (p0.groups.length:Int)),(21,.int .i64 a.2.2.1)] [(2,some ((1,2),.box (Policy.cs p0))),(3,some ((1,3),.box [.str p1])),(5,some ((1,5),.box [.row 10 (1,10)])),(6,some ((1,6),.box [.bool r1])),(10,some ((1,10),.row 9 1 false (List.map csS a.2.2.2)))] 2) (fun a=>ZE a.1 f26 a.2=some r) (fun a=>a.1) (mf26,false,0,x139) 2 h (sR [(2,1,2),(3,1,3),(5,1,5),(6,1,6),(10,1,10)]) (fun a _ h=>?_)
  obtain ⟨mf26,x183,x184,x185⟩:=a
  obtain ⟨mf26,rfl,h⟩:=Zo hf26 h
  dsimp only at h ⊢
  refine Zh ?_
  refine rg ?_
  refine cS h rfl (fun h=>?_) fun h=>?_
  ·refine Zax h fun k27 hk27 h=>?_
   refine ZaO (α:=Bool×(List ByteArray)) (fun a _=>mkS [(2,.ptr 2 (1,2) 0),(3,.ptr 3 (1,3) 0),(5,.ptr 5 (1,5) 0),(6,.ptr 6 (1,6) 0),(7,.bool a.1),(19,.sl (List.map Group.cs p0.groups)),(20,.int .i64 (p0.groups.length:Int)),(21,.int .i64 x184)] [(2,some ((1,2),.box (Policy.cs p0))),(3,some ((1,3),.box [.str p1])),(5,some ((1,5),.box [.row 10 (1,10)])),(6,some ((1,6),.box [.bool r1])),(10,some ((1,10),.row 9 1 false (List.map csS a.2)))] 2) (fun a=>k27 a.1 a.2=some r) (Zh ?_) (fun a _ h=>?_)
   ·refine bl ?_
    refine rg ?_
    refine aI Group.cs h fun e202 h=>?_
    refine rg ?_
    refine aL h (Zb1 _ _) fun r203 h=>?_
    refine cS h rfl (fun h=>?_) fun h=>?_
    ·exact jn (x183,x185) h (sR [(2,1,2),(3,1,3),(5,1,5),(6,1,6),(10,1,10)])
    refine rg ?_
    refine Zkx rfl rfl (Zh ?_)
    obtain ⟨r204,h145,h⟩:=bnd h
    refine ZjO (Ze2 _ (fun y0=>Zd1 y0 r1 p1 x185) 110 [[.bool r1],[.str p1],[.sl (List.map csS x185)]] (fun y0 r h=>ZkU y0 r1 p1 x185 r h) _ h145) rfl rfl rfl (Zh ?_)
    refine cS h rfl (fun h=>?_) fun h=>?_
    ·refine rg ?_
     refine bM csS ([e202.name]:List ByteArray) ?_
     refine pR csS h fun l205 h=>?_
     refine rg ?_
     exact jn (true,l205) h (sR [(2,1,2),(3,1,3),(5,1,5),(6,1,6),(10,6,4)])
    exact jn (x183,x185) h (sR [(2,1,2),(3,1,3),(5,1,5),(6,1,6),(10,1,10)])
   obtain ⟨x200,x201⟩:=a
   subst hk27
   dsimp only at h ⊢
   refine Zh ?_
   refine rg ?_
   exact rn (mf26,x200,(w64 (x184+1)),x201) h (sR [(2,1,2),(3,1,3),(5,1,5),(6,1,6),(10,1,10)])
  exact rn (mf23,x183,x185) h (sR [(2,1,2),(3,1,3),(5,1,5),(6,1,6),(10,1,10)])
 refine rg ?_
 obtain ⟨r206,h147,h⟩:=bnd h
 refine ZtG (ZiQ _ _ h147) rfl rfl rfl (Zh ?_)
 refine rg ?_
 cases h
 exact rQ
def ZaI (p0:State) (p1:ByteArray) (p2:Title):Option Bool:=
 (Zck p0).bind fun r1=>
 (Zbr p0 p2).bind fun r2=>
 letk (fun (x5:Bool)=>
  (some x5:Option Bool)) fun k1=>
 if r2.2 then
  (Zbp r1 p1).bind fun r6=>
  (ZbY r1 r6 1 p2).bind fun r7=>
  k1 r7
 else
 k1 false
theorem ZjJ (p0:State) (p1:ByteArray) (p2:Title) (r:Bool) (h:ZaI p0 p1 p2=some r):Zd Tryz.prog 73 [p0.pv,.str p1,p2.pv] (.bool r):=by
 refine cF (fun r=>.bool r) h mix Tryz.func73 fun r h=>?_
 unfold ZaI at h
 refine Zh ?_
 refine rg ?_
 refine rg ?_
 refine aC h (Zh5 _) fun r1 h=>?_
 refine rg ?_
 refine aC h (ZeN _ _) fun r2 h=>?_
 refine jL h (fun x5=>mkS [(6,.bool x5)] [] 2) (fun k1 h=>?_) fun x5 h=>?_
 ·refine rg ?_
  refine kS 19 h rfl (fun h=>?_) fun h=>?_
  ·refine aC h (Zim _ _) fun r6 h=>?_
   refine aC h (ZkY _ _ _ _) fun r7 h=>?_
   exact jn r7 h (sR [])
  iterate 6 refine Zi rfl (Zh ?_)
  exact jn false h (sR [])
 cases h
 exact rQ
def ZcE (p0:List Item):Option (List Item):=
 (neL p0).bind fun u1=>
 (ZcF 72 [] p0).bind fun l2=>
 (some l2:Option (List Item))
theorem ZiR (p0:List Item) (r:List Item) (h:ZcE p0=some r):Zd Tryz.prog 44 [.sl (List.map Item.cs p0)] (.sl (List.map Item.cs r)):=by
 refine cF (fun r=>.sl (List.map Item.cs r)) h mix Tryz.func44 fun r h=>?_
 unfold ZcE at h
 refine Zh ?_
 refine rg ?_
 refine rg ?_
 obtain ⟨u1,h1,h⟩:=bnd h
 refine ZuH rfl h1 rfl (Zh ?_)
 refine Zal rfl rfl (Zh ?_)
 refine rg ?_
 refine bM Item.cs ([]:List Item) ?_
 refine pR Item.cs h fun l2 h=>?_
 cases h
 exact rQ
end Go.Proofs.YtjoneoobolnnbaaGreatDoor
namespace Go.Proofs.YtjoneoobolnnbaaGreatDoor
open VL Go.RowKit
theorem Zqv (a:Addr) (c:Nat) (w:World):Calls Tryz.prog 44 #[.slice (some a) 0 c] w fun e w'=>∃ v',e = .returned v'∧w'.ownsRow w.heap.size 52 6 v' 0 []∧Below w.heap.size w w':=by
 obtain ⟨i0,hi0⟩:∃ i,Tryz.prog.info? 52=some i:=⟨_,rfl⟩
 have q22:∀ (w:World) (a:Option Addr) (n c n' c':Nat),(binOp .eql 43 (.slice a n c) (.slice none n' c')).run Tryz.prog w = .ok (.bool a.isNone) w:=fun w a n c n' c'=>Lib.run_eql_slice_nil w _ 52 a n c n' c' (by kernel_rfl)
 have u22:∀ w,Sem.run Tryz.prog (underlying 43) w = .ok (TypeDesc.slice 52) w:=run_underlying (by kernel_rfl)
 go_enter Tryz.func44,Tryz.ntmps44
 go_wp2_with (at_builtin;refine wpList_append_own _ rfl _ _ 43 rfl w.heap.size 52 _ _ 6 _ (by kernel_rfl) rfl rfl rfl rfl rfl (by decide) _ _ _ rfl (World.ownsRow_made w #[] 0 (Nat.le_refl _) (Nat.zero_le _) (by simp)) a 0 c [] rfl ?qc1 ?qc2 ?qc3 ?qc4 ?qc5 ?qc6 ?_)
 case qc1=>rfl
 case qc2=>
  intro j u hj
  simp at hj
 case qc3=>simp
 case qc4=>simp [maxLen]
 case qc5=>simp
 case qc6=>simp
 intro v' w1 hown hgrow hnil
 go_wp2
 go_ret
 exact ⟨v',rfl,by simpa using hown,((Below.refl _ w).alloc (Nat.le_refl _) _).grown hgrow (by simp) (by intro k hk;simp [Value.ownBlock] at hk;omega)⟩
theorem Zqw (c:Nat) (w:World):Calls Tryz.prog 44 #[.slice none 0 c] w fun e w'=>e = .returned (.slice none 0 0)∧Below w.heap.size w w':=by
 have q22:∀ (w:World) (a:Option Addr) (n c n' c':Nat),(binOp .eql 43 (.slice a n c) (.slice none n' c')).run Tryz.prog w = .ok (.bool a.isNone) w:=fun w a n c n' c'=>Lib.run_eql_slice_nil w _ 52 a n c n' c' (by kernel_rfl)
 go_enter Tryz.func44,Tryz.ntmps44
 go_wp2
 go_ret
 exact ⟨rfl,Below.refl _ _⟩
theorem Zvf:Zd Tryz.prog 44 [.sl []] (.sl []):=by
 refine ⟨by kernel_rfl,rfl,rfl,fun x vs hpre hI=>?_⟩
 obtain ⟨v,rfl⟩:∃ v,vs = #[v]:=by
  obtain ⟨l⟩:=vs
  have hs:=hpre.size
  match l,hs with
  | [v],_=>exact ⟨v,rfl⟩
  | [],hs=>simp at hs
  | _::_::_,hs=>simp at hs
 have hv:=hpre.rep 0 (.sl []) v rfl rfl
 have fin:∀ (w':World) (v':Value),Below x.W.heap.size x.W w'→(∀ y:Ctx,Rep y (.sl []) v')→∃ y v,y.W=w'∧Ending.returned v' = .returned v∧Post x y none (.sl []) [] v:=fun w' v' hb hr=>by
  have hF:∀ b o v,x.F b o→x.W.cell? ⟨b,o,none⟩=some v→w'.cell? ⟨b,o,none⟩=some v:=fun b o v hF hv=>(World.cell?_of_block (hb.block b (hpre.flt b o hF))).trans hv
  exact ⟨{ x with W:=w' },v',rfl,rfl,⟨fun _ h=>⟨h,rfl⟩,fun _ _ h=>h,hF⟩,⟨hb.os,hb.tape,hb.output,hb.size,fun b hlt _=>hb.block b hlt⟩,fun _ _ h=>.inl h,fun b o h=>Nat.lt_of_lt_of_le (hpre.flt b o h) hb.size,hr _,fun j os h=>by cases h⟩
 have slE:∀ (A:Option Addr) (c:Nat) (hm:c≤9223372036854775807) (y:Ctx),Rep y (.sl []) (.slice A 0 c):=fun A c hm y=>.sl [] A 0 c 0 0 0 (fun _ _=>undef) rfl (Nat.zero_le _) hm (by simp) (by omega) (fun i j e p he=>by simp at he) (fun i j e p he=>by simp at he)
 cases hv with
 | sl _ A n c k b off f hn hc hm hk hA hcell hh=>
 obtain rfl:n=0:=hn
 cases A with
 | none=>
   refine (Zqw c x.W).mono ?_
   rintro e w' ⟨rfl,hb⟩
   exact fin w' _ hb (slE none 0 (by omega))
 | some a=>
   refine (Zqv a c x.W).mono ?_
   rintro e w' ⟨v',rfl,hown,hb⟩
   refine fin w' v' hb ?_
   rcases hown.2 with ⟨hn,_⟩ | ⟨g,cap,cur,hv,_,_,_,hcap,_⟩
   ·rw [hn]
    exact slE none 0 (by omega)
   ·rw [hv]
    exact slE _ cap (by unfold maxLen at hcap;omega)
def Zap (l:List Item):Option (List Item):=if l.length≤1000000 then some l else none
theorem Zvg (l:List Item) (h0:l≠[]) (hl:l.length≤1000000):ZcE l=some l:=by
 unfold ZcE
 have e1:neL l=some ():=by
  unfold neL
  cases l with
  | nil=>exact absurd rfl h0
  | cons x l=>rfl
 rw [e1,Option.bind_some,ZuJ l.length (by simp) (by omega) (by omega),Option.bind_some]
 rfl
theorem Zfq (l r:List Item) (h:Zap l=some r):Zd Tryz.prog 44 [.sl (List.map Item.cs l)] (.sl (List.map Item.cs r)):=by
 unfold Zap at h
 split at h
 ·rename_i hl
  injection h with h
  subst h
  by_cases h0:l = []
  ·subst h0
   exact Zvf
  ·exact ZiR l l (Zvg l h0 hl)
 ·cases h
end Go.Proofs.YtjoneoobolnnbaaGreatDoor
namespace Go.Proofs.YtjoneoobolnnbaaGreatDoor
open VL
def ZaE (p0:State) (p1:ByteArray):Option (List Title):=
 ZE Zaj (fun f7 ((x23,x24):Int×(List Title))=>
  if (decide (x23<(p0.watches.length:Int))) then
   letk (fun (x32:List Title)=>
    f7 ((w64 (x23+1)),x32)) fun k8=>
   (atI p0.watches x23).bind fun e33=>
   if (decide (e33.user=p1)) then
    (ZcF 24 x24 [e33.title]).bind fun l34=>
    k8 l34
   else
   k8 x24
  else
  (some x24:Option (List Title))) (0,([]:List Title))
theorem Zcr (p0:State) (p1:ByteArray) (r:List Title) (h:ZaE p0 p1=some r):ContractN Tryz.prog 21 [p0.pv,.str p1] (.row 29 2 false (List.map Title.cs r)):=by
 refine Zjd (O:=fun r=>.row 29 2 false (List.map Title.cs r)) h mix Tryz.func21 (by kernel_rfl) rfl (by kernel_rfl) fun r h=>?_
 unfold ZaE at h
 refine Zh ?_
 refine rg ?_
 refine rg ?_
 refine rg ?_
 refine lM Watch.cs p0.watches ?_
 refine bl ?_
 refine Zn h fun f7 mf7 hf7 h=>?_
 refine Zk (α:=Nat×(Int×(List Title))) (fun a _=>mkS [(1,.str p1),(5,.row 5 (1,5)),(9,.sl (List.map Watch.cs p0.watches)),(10,.int .i64 (p0.watches.length:Int)),(11,.int .i64 a.2.1)] [(5,some ((1,5),.row 29 2 false (List.map Title.cs a.2.2)))] 2) (fun a=>ZE a.1 f7 a.2=some r) (fun a=>a.1) (mf7,0,([]:List Title)) 2 h (Za9 [] 5 29 2 rfl ⟨rfl,rfl,rfl,rfl,rfl,trivial⟩ ⟨⟨rfl,rfl⟩,trivial⟩ rfl) (fun a _ h=>?_)
 obtain ⟨mf7,x23,x24⟩:=a
 obtain ⟨mf7,rfl,h⟩:=Zo hf7 h
 dsimp only at h ⊢
 refine Zh ?_
 refine rg ?_
 refine cS h rfl (fun h=>?_) fun h=>?_
 ·refine jL h (fun x32=>mkS [(1,.str p1),(5,.row 5 (1,5)),(9,.sl (List.map Watch.cs p0.watches)),(10,.int .i64 (p0.watches.length:Int)),(11,.int .i64 x23)] [(5,some ((1,5),.row 29 2 false (List.map Title.cs x32)))] 2) (fun k8 h=>?_) fun x32 h=>?_
  ·refine bl ?_
   refine rg ?_
   refine aI Watch.cs h fun e33 h=>?_
   refine rg ?_
   refine cS h rfl (fun h=>?_) fun h=>?_
   ·refine rg ?_
    refine ZZ (M:=([e33.title]:List Title)) (f:=Title.cs) rfl rfl rfl rfl (Nat.le_of_ble_eq_true rfl) rfl (Zh ?_)
    refine pR Title.cs h fun l34 h=>?_
    exact jn l34 h (sR [(5,5,4)])
   exact jn x24 h (sR [(5,1,5)])
  refine rg ?_
  exact rn (mf7,(w64 (x23+1)),x32) h (sR [(5,1,5)])
 refine rg ?_
 injection h with h
 subst h
 exact ZtJ (t:=5) (g:=(1,5)) (o2:=.row 29 2 false (List.map Title.cs x24)) rfl rfl rfl
def Zcq (p0:State) (p1:ByteArray) (p2:List Title):Option (List Item):=
 ZE Zaj (fun f17 ((x143,x144):Int×(List Num))=>
  if (decide (x143<(p2.length:Int))) then
   letk (fun (x197:List Num)=>
    f17 ((w64 (x143+1)),x197)) fun k19=>
   (atI p2 x143).bind fun e198=>
   (ZaI p0 p1 e198).bind fun r199=>
   if (!r199) then
    k19 x144
   else
   (Zbr p0 e198).bind fun r200=>
   ZE Zaj (fun f20 ((x205,x206):Int×(List Num))=>
    if (decide (x205<(r200.1.history.length:Int))) then
     (atI r200.1.history x205).bind fun e213=>
     (ZcF 80 x206 [(⟨(⟨e198,e213.number,e213.user,e213.note,e213.minute⟩:Item),e213.seq⟩:Num)]).bind fun l214=>
     f20 ((w64 (x205+1)),l214)
    else
    k19 x206) (0,x144)
  else
  (ZG x144).bind fun r215=>
  ZE Zaj (fun f22 ((x234,x235):Int×(List Item))=>
   if (decide (x234<(r215.length:Int))) then
    (atI r215 x234).bind fun e242=>
    (ZcF 72 x235 [e242.item]).bind fun l243=>
    f22 ((w64 (x234+1)),l243)
   else
   (some x235:Option (List Item))) (0,([]:List Item))) (0,([]:List Num))
theorem ZkX (p0:State) (p1:ByteArray) (p2:List Title) (r:List Item) (h:Zcq p0 p1 p2=some r):ContractN Tryz.prog 42 [p0.pv,.str p1,.sl (List.map Title.cs p2)] (.row 52 6 false (List.map Item.cs r)):=by
 refine Zjd (O:=fun r=>.row 52 6 false (List.map Item.cs r)) h mix Tryz.func42 (by kernel_rfl) rfl (by kernel_rfl) fun r h=>?_
 unfold Zcq at h
 refine Zd3 ?_
 refine Zv (Zd3 ?_)
 refine Zv (Zd3 ?_)
 refine Zv (Zd3 ?_)
 refine Zsb rfl (M:=p2) (f:=Title.cs) rfl (Zd3 ?_)
 refine ZdN (Zd3 ?_)
 refine Zn h fun f17 mf17 hf17 h=>?_
 refine Zk (α:=Nat×(Int×(List Num))) (fun a _=>mkS [(1,.str p1),(3,.ptr 3 (1,3) 0),(7,.row 7 (1,7)),(17,.sl (List.map Title.cs p2)),(18,.int .i64 (p2.length:Int)),(19,.int .i64 a.2.1)] [(3,some ((1,3),.box (State.cs p0))),(7,some ((1,7),.row 123 7 false (List.map Num.cs a.2.2)))] 2) (fun a=>ZE a.1 f17 a.2=some r) (fun a=>a.1) (mf17,0,([]:List Num)) 2 h (Za9 [((1,3),(1,0))] 7 123 7 rfl ⟨rfl,rfl,rfl,rfl,rfl,rfl,trivial⟩ ⟨⟨rfl,rfl⟩,⟨rfl,rfl⟩,trivial⟩ rfl) (fun a _ h=>?_)
 obtain ⟨mf17,x143,x144⟩:=a
 obtain ⟨mf17,rfl,h⟩:=Zo hf17 h
 dsimp only at h ⊢
 refine Zd3 ?_
 refine Zv (Zd3 ?_)
 refine Zbv rfl (fun c=>Zd3 ?_) (fun c=>Zd3 ?_)
 ·replace h:=ifT c h
  refine Zax h fun k19 hk19 h=>?_
  refine ZaO (α:=List Num) (fun x197 _=>mkS [(1,.str p1),(3,.ptr 3 (1,3) 0),(7,.row 7 (1,7)),(17,.sl (List.map Title.cs p2)),(18,.int .i64 (p2.length:Int)),(19,.int .i64 x143)] [(3,some ((1,3),.box (State.cs p0))),(7,some ((1,7),.row 123 7 false (List.map Num.cs x197)))] 2) (fun x197=>k19 x197=some r) (Zd3 ?_) (fun a _ h=>?_)
  ·refine ZdN (Zd3 ?_)
   refine Zv (Zd3 ?_)
   obtain ⟨e198,h166,h⟩:=bnd h
   refine Zo9 (f:=Title.cs) rfl h166 rfl rfl rfl (Zd3 ?_)
   refine Zv (Zd3 ?_)
   obtain ⟨r199,h167,h⟩:=bnd h
   refine ZfX (ZjJ _ _ _ _ h167) rfl rfl (Zd3 ?_)
   refine Zbv rfl (fun c=>Zd3 ?_) (fun c=>Zd3 ?_)
   ·replace h:=ifT c h
    exact Zbm x144 2 h (ZF [((1,3),(1,3)),((1,7),(1,7))] ⟨rfl,rfl,rfl,rfl,rfl,rfl,trivial⟩ ⟨⟨rfl,rfl⟩,⟨rfl,rfl⟩,trivial⟩ rfl)
   replace h:=ifF c h
   refine Zv (Zd3 ?_)
   obtain ⟨r200,h168,h⟩:=bnd h
   refine ZfX (ZeN _ _ _ h168) rfl rfl (Zd3 ?_)
   refine Zv (Zd3 ?_)
   refine Zsb rfl (M:=r200.1.history) (f:=Revision.cs) rfl (Zd3 ?_)
   refine ZdN (Zd3 ?_)
   refine Zn h fun f20 mf20 hf20 h=>?_
   refine Zk (α:=Nat×(Int×(List Num))) (fun a _=>mkS [(1,.str p1),(3,.ptr 3 (1,3) 0),(7,.row 7 (1,7)),(9,.ptr 9 (1,9) 0),(17,.sl (List.map Title.cs p2)),(18,.int .i64 (p2.length:Int)),(19,.int .i64 x143),(35,.sl (List.map Revision.cs r200.1.history)),(36,.int .i64 (r200.1.history.length:Int)),(37,.int .i64 a.2.1)] [(3,some ((1,3),.box (State.cs p0))),(7,some ((1,7),.row 123 7 false (List.map Num.cs a.2.2))),(9,some ((1,9),.box (Title.cs e198)))] 2) (fun a=>ZE a.1 f20 a.2=some r) (fun a=>a.1) (mf20,0,x144) 2 h (ZF [((1,3),(1,3)),((1,7),(1,7)),((1,9),(3,2))] ⟨rfl,rfl,rfl,rfl,rfl,rfl,rfl,rfl,rfl,rfl,trivial⟩ ⟨⟨rfl,rfl⟩,⟨rfl,rfl⟩,⟨rfl,rfl⟩,trivial⟩ rfl) (fun a _ h=>?_)
   obtain ⟨mf20,x205,x206⟩:=a
   obtain ⟨mf20,rfl,h⟩:=Zo hf20 h
   dsimp only at h ⊢
   refine Zd3 ?_
   refine Zv (Zd3 ?_)
   refine Zbv rfl (fun c=>Zd3 ?_) (fun c=>Zd3 ?_)
   ·replace h:=ifT c h
    refine ZdN (Zd3 ?_)
    refine Zv (Zd3 ?_)
    obtain ⟨e213,h179,h⟩:=bnd h
    refine Zo9 (f:=Revision.cs) rfl h179 rfl rfl rfl (Zd3 ?_)
    refine Zv (Zd3 ?_)
    refine ZmD (cs:=[.int .i64 e198.space,.str e198.name,.int .i64 e213.number,.str e213.user,.str e213.note,.int .i64 e213.minute]) rfl (by kernel_rfl) (Zd3 ?_)
    refine ZmD (cs:=[.int .i64 e198.space,.str e198.name,.int .i64 e213.number,.str e213.user,.str e213.note,.int .i64 e213.minute,.int .i64 e213.seq]) rfl (by kernel_rfl) (Zd3 ?_)
    refine ZZ (M:=([(⟨(⟨e198,e213.number,e213.user,e213.note,e213.minute⟩:Item),e213.seq⟩:Num)]:List Num)) (f:=Num.cs) rfl rfl rfl rfl (Nat.le_of_ble_eq_true rfl) rfl (Zd3 ?_)
    obtain ⟨l214,h180,h⟩:=bnd h
    refine ZuZ (f:=Num.cs) rfl h180 (fun _=>rfl) rfl rfl rfl rfl (Zd3 ?_)
    refine Zv (Zd3 ?_)
    exact ZaL (mf20,(w64 (x205+1)),l214) 2 h (Nat.lt_succ_self mf20) (ZF [((1,3),(1,3)),((1,7),(4,15)),((1,9),(1,9))] ⟨rfl,rfl,rfl,rfl,rfl,rfl,rfl,rfl,rfl,rfl,trivial⟩ ⟨⟨rfl,rfl⟩,⟨rfl,rfl⟩,⟨rfl,rfl⟩,trivial⟩ rfl)
   replace h:=ifF c h
   exact Zbm x206 2 h (ZF [((1,3),(1,3)),((1,7),(1,7))] ⟨rfl,rfl,rfl,rfl,rfl,rfl,trivial⟩ ⟨⟨rfl,rfl⟩,⟨rfl,rfl⟩,trivial⟩ rfl)
  revert a;intro x197 h
  subst hk19
  dsimp only at h ⊢
  refine Zd3 ?_
  refine Zv (Zd3 ?_)
  exact ZaL (mf17,(w64 (x143+1)),x197) 2 h (Nat.lt_succ_self mf17) (ZF [((1,3),(1,3)),((1,7),(1,7))] ⟨rfl,rfl,rfl,rfl,rfl,rfl,trivial⟩ ⟨⟨rfl,rfl⟩,⟨rfl,rfl⟩,trivial⟩ rfl)
 replace h:=ifF c h
 refine Zv (Zd3 ?_)
 obtain ⟨r215,h181,h⟩:=bnd h
 refine ZcY (Zd6 _ _ h181) rfl rfl rfl rfl rfl (Zd3 ?_)
 refine Zv (Zd3 ?_)
 refine Zv (Zd3 ?_)
 refine Zsb rfl (M:=r215) (f:=Num.cs) rfl (Zd3 ?_)
 refine ZdN (Zd3 ?_)
 refine Zn h fun f22 mf22 hf22 h=>?_
 refine Zk (α:=Nat×(Int×(List Item))) (fun a _=>mkS [(14,.row 14 (1,14)),(61,.row 7 (1,7)),(62,.int .i64 (r215.length:Int)),(63,.int .i64 a.2.1)] [(7,some ((1,7),.row 123 7 false (List.map Num.cs r215))),(14,some ((1,14),.row 52 6 false (List.map Item.cs a.2.2)))] 2) (fun a=>ZE a.1 f22 a.2=some r) (fun a=>a.1) (mf22,0,([]:List Item)) 2 h (Za9 [((1,7),(1,7))] 14 52 6 rfl ⟨rfl,rfl,rfl,rfl,trivial⟩ ⟨⟨rfl,rfl⟩,⟨rfl,rfl⟩,trivial⟩ rfl) (fun a _ h=>?_)
 obtain ⟨mf22,x234,x235⟩:=a
 obtain ⟨mf22,rfl,h⟩:=Zo hf22 h
 dsimp only at h ⊢
 refine Zd3 ?_
 refine Zv (Zd3 ?_)
 refine Zbv rfl (fun c=>Zd3 ?_) (fun c=>Zd3 ?_)
 ·replace h:=ifT c h
  refine ZdN (Zd3 ?_)
  refine Zv (Zd3 ?_)
  obtain ⟨e242,h204,h⟩:=bnd h
  refine ZD rfl h204 rfl rfl rfl (Zd3 ?_)
  refine ZaB rfl h204 rfl rfl rfl (Zd3 ?_)
  refine Zv (Zd3 ?_)
  refine ZZ (M:=([e242.item]:List Item)) (f:=Item.cs) rfl rfl rfl rfl (Nat.le_of_ble_eq_true rfl) rfl (Zd3 ?_)
  obtain ⟨l243,h205,h⟩:=bnd h
  refine ZuZ (f:=Item.cs) rfl h205 (fun _=>rfl) rfl rfl rfl rfl (Zd3 ?_)
  refine Zv (Zd3 ?_)
  exact ZaL (mf22,(w64 (x234+1)),l243) 2 h (Nat.lt_succ_self mf22) (ZF [((1,7),(1,7)),((1,14),(4,4))] ⟨rfl,rfl,rfl,rfl,trivial⟩ ⟨⟨rfl,rfl⟩,⟨rfl,rfl⟩,trivial⟩ rfl)
 replace h:=ifF c h
 refine Zv (Zd3 ?_)
 injection h with h
 subst h
 exact ZtJ (t:=14) (g:=(1,14)) (o2:=.row 52 6 false (List.map Item.cs x235)) rfl rfl rfl
end Go.Proofs.YtjoneoobolnnbaaGreatDoor
