/- What the rules ask of the types. Printed by facts.sh. -/
import Derived.Test.YtjoneoobolnnbaaGreatDoorCB34
import Derived.Test.YtjoneoobolnnbaaGreatDoorRows
import Derived.Lib.SplitLaws
set_option maxRecDepth 100000
set_option maxHeartbeats 4000000
namespace Go.Proofs.YtjoneoobolnnbaaGreatDoor
namespace VL
instance:Fld Tryz.prog 116 0 0 false 1:=⟨by kernel_rfl,rfl⟩
instance:Fld Tryz.prog 116 1 1 false 1:=⟨by kernel_rfl,rfl⟩
end VL
end Go.Proofs.YtjoneoobolnnbaaGreatDoor
namespace Go.Proofs.YtjoneoobolnnbaaGreatDoor
namespace VL
open Go.RowKit
section
variable {α β γ:Type}
theorem ZkW {x:Option α} {v:α} {Q:α→Prop} (e:x=some v) (h:Q v):Tot x Q:=⟨v,e,h⟩
end
end VL
end Go.Proofs.YtjoneoobolnnbaaGreatDoor
namespace Go.Proofs.YtjoneoobolnnbaaGreatDoor
namespace VL
open Go.RowKit
theorem Za8 {α:Type} (l:List α) (q:Int) (x:α):(ZaS l q x).length=l.length:=List.length_set ..
end VL
end Go.Proofs.YtjoneoobolnnbaaGreatDoor
set_option linter.unusedSimpArgs false
namespace Go.Proofs.YtjoneoobolnnbaaGreatDoor
open VL Go.RowKit
theorem ZqM (a b:Item) (W:World):(binOp .neq 52 (.agg #[.int .i64 a.title.space,.string a.title.name,.int .i64 a.number,.string a.user,.string a.note,.int .i64 a.minute]) (.agg #[.int .i64 b.title.space,.string b.title.name,.int .i64 b.number,.string b.user,.string b.note,.int .i64 b.minute])).run Tryz.prog W = .ok (.bool (!decide (a=b))) W:=by
 have e:(if a.title.space=b.title.space then if a.title.name.toList=b.title.name.toList then if a.number=b.number then if a.user.toList=b.user.toList then if a.note.toList=b.note.toList then if a.minute=b.minute then false else true else true else true else true else true else true)=(!decide (a=b)):=by
  obtain ⟨⟨a1,a2⟩,a3,a4,a5,a6⟩:=a
  obtain ⟨⟨b1,b2⟩,b3,b4,b5,b6⟩:=b
  simp only [Item.mk.injEq,Title.mk.injEq,Zcw]
  (repeat' split)<;>simp_all
 rw [← e]
 go_simp
 (repeat' split)<;>simp_all
end Go.Proofs.YtjoneoobolnnbaaGreatDoor
set_option linter.unusedVariables false
namespace Go.Proofs.YtjoneoobolnnbaaGreatDoor
open VL
def Zdz:Option (List ByteArray):=
 (some [(⟨#[]⟩:ByteArray),(⟨#[97,110,110]⟩:ByteArray),(⟨#[98,111,98]⟩:ByteArray),(⟨#[99,121]⟩:ByteArray)]:Option (List ByteArray))
theorem Zgg  (r:List ByteArray) (h:Zdz=some r):Zd Tryz.prog 14 [] (.sl (List.map csS r)):=by
 refine cF (fun r=>.sl (List.map csS r)) h mix Tryz.func14 fun r h=>?_
 unfold Zdz at h
 refine Zh ?_
 refine rg ?_
 refine rg ?_
 refine bM csS ([(⟨#[]⟩:ByteArray),(⟨#[97,110,110]⟩:ByteArray),(⟨#[98,111,98]⟩:ByteArray),(⟨#[99,121]⟩:ByteArray)]:List ByteArray) ?_
 cases h
 exact rQ
def Za4 (p0:List Item) (p1:List Item):Option Bool:=
 if (!decide ((p0.length:Int)=(p1.length:Int))) then
  (some false:Option Bool)
 else
 ZE Zaj (fun f2 (x18:Int)=>
  if (decide (x18<(p0.length:Int))) then
   (atI p0 x18).bind fun e25=>
   (atI p1 x18).bind fun e26=>
   if (!decide (e25=e26)) then
    (some false:Option Bool)
   else
   f2 (w64 (x18+1))
  else
  (some true:Option Bool)) 0
theorem Zc3 (p0:List Item) (p1:List Item) (r:Bool) (h:Za4 p0 p1=some r):Zd Tryz.prog 28 [.sl (List.map Item.cs p0),.sl (List.map Item.cs p1)] (.bool r):=by
 refine cF (fun r=>.bool r) h mix Tryz.func28 fun r h=>?_
 unfold Za4 at h
 refine Zh ?_
 refine rg ?_
 refine rg ?_
 refine lM Item.cs p0 ?_
 refine lM Item.cs p1 ?_
 refine cS h rfl (fun h=>?_) fun h=>?_
 ·refine rg ?_
  cases h
  exact rQ
 refine rg ?_
 refine bl ?_
 refine Zn h fun f2 mf2 hf2 h=>?_
 refine Zk (α:=Nat×Int) (fun a _=>mkS [(0,.sl (List.map Item.cs p0)),(1,.sl (List.map Item.cs p1)),(5,.int .i64 a.2)] [] 2) (fun a=>ZE a.1 f2 a.2=some r) (fun a=>a.1) (mf2,0) 2 h (sR []) (fun a _ h=>?_)
 obtain ⟨mf2,x18⟩:=a
 obtain ⟨mf2,rfl,h⟩:=Zo hf2 h
 dsimp only at h ⊢
 refine Zh ?_
 refine rg ?_
 refine lM Item.cs p0 ?_
 refine cS h rfl (fun h=>?_) fun h=>?_
 ·refine bl ?_
  refine rg ?_
  refine aI Item.cs h fun e25 h=>?_
  refine aI Item.cs h fun e26 h=>?_
  refine Ze3 (.inr rfl) rfl rfl rfl rfl rfl (fun W=>ZqM e25 e26 W) (Zh ?_)
  refine cS h rfl (fun h=>?_) fun h=>?_
  ·refine rg ?_
   cases h
   exact rQ
  refine rg ?_
  exact rn (mf2,(w64 (x18+1))) h (sR [])
 refine rg ?_
 cases h
 exact rQ
def Zau (p0:List Int) (p1:List Int):Option State:=
 (ZfS p0).bind fun r1=>
 (ZgQ p1).bind fun r2=>
 (ZA r2 7).bind fun r3=>
 ZE Zaj (fun f7 ((x92,x93,x94,x95,x96,x97,x98,x99,x100,x101,x102,x103):Int×Int×Int×(List Stored)×(List Stored)×(List Proposal)×Int×(List Watch)×(List Last)×(List Int)×Int×Int)=>
  if (decide (0<x92)) then
   letk (fun (x127:Int) (x128:Int) (x129:List Stored) (x130:List Stored) (x131:List Proposal) (x132:Int) (x133:List Watch) (x134:List Last) (x135:List Int) (x136:Int) (x137:Int)=>
    f7 ((w64 (x92 - 1)),x127,x128,x129,x130,x131,x132,x133,x134,x135,x136,x137)) fun k8=>
   (ZA (⟨x101,x102,x103⟩:SrcF) 3).bind fun r138=>
   (atI ([(⟨#[97,110,110]⟩:ByteArray),(⟨#[98,111,98]⟩:ByteArray),(⟨#[99,121]⟩:ByteArray)]:List ByteArray) r138.1).bind fun c139=>
   (Ze1 r138.2).bind fun r140=>
   (Zao (⟨x93,x94,x95,x96,x97,x98,x99,x100⟩:State) [(⟨7,c139,(⟨#[]⟩:ByteArray),r140.1,(⟨0,(⟨#[]⟩:ByteArray)⟩:Title),(⟨#[]⟩:ByteArray),0,[]⟩:Change)]).bind fun r141=>
   if (decide (r141.2=0)) then
    k8 r141.1.seq r141.1.clock r141.1.pages r141.1.gone r141.1.proposals r141.1.proposed r141.1.watches r141.1.lasts r140.2.l r140.2.pos r140.2.seed
   else
   k8 x93 x94 x95 x96 x97 x98 x99 x100 r140.2.l r140.2.pos r140.2.seed
  else
  (some (⟨x93,x94,x95,x96,x97,x98,x99,x100⟩:State):Option State)) (r3.1,r1.seq,r1.clock,r1.pages,r1.gone,r1.proposals,r1.proposed,r1.watches,r1.lasts,r3.2.l,r3.2.pos,r3.2.seed)
theorem ZdK (p0:List Int) (p1:List Int) (r:State) (h:Zau p0 p1=some r):Zd Tryz.prog 13 [.sl (List.map csI p0),.sl (List.map csI p1)] (r.pv):=by
 refine cF (fun r=>r.pv) h mix Tryz.func13 fun r h=>?_
 unfold Zau at h
 refine Zh ?_
 refine rg ?_
 refine rg ?_
 refine aC h (Ziy _) fun r1 h=>?_
 refine aN h (ZhC _) fun r2 h=>?_
 refine rg ?_
 refine aO h (Zy _ _) fun r3 h=>?_
 refine bl ?_
 refine Zn h fun f7 mf7 hf7 h=>?_
 refine Zk (α:=Nat×(Int×Int×Int×(List Stored)×(List Stored)×(List Proposal)×Int×(List Watch)×(List Last)×(List Int)×Int×Int)) (fun a _=>mkS [(4,.ptr 4 (1,4) 0),(5,.ptr 5 (1,5) 0),(6,.ptr 13 (1,13) 0),(7,.int .i64 a.2.1)] [(4,some ((1,4),.box [.int .i64 0,.int .i64 0,.nil,.nil,.nil,.int .i64 0,.nil,.nil])),(5,some ((1,5),.box [.int .i64 a.2.2.1,.int .i64 a.2.2.2.1,.sl (List.map Stored.cs a.2.2.2.2.1),.sl (List.map Stored.cs a.2.2.2.2.2.1),.sl (List.map Proposal.cs a.2.2.2.2.2.2.1),.int .i64 a.2.2.2.2.2.2.2.1,.sl (List.map Watch.cs a.2.2.2.2.2.2.2.2.1),.sl (List.map Last.cs a.2.2.2.2.2.2.2.2.2.1)])),(13,some ((1,13),.box [.sl (List.map csI a.2.2.2.2.2.2.2.2.2.2.1),.int .i64 a.2.2.2.2.2.2.2.2.2.2.2.1,.int .u64 a.2.2.2.2.2.2.2.2.2.2.2.2]))] 2) (fun a=>ZE a.1 f7 a.2=some r) (fun a=>a.1) (mf7,r3.1,r1.seq,r1.clock,r1.pages,r1.gone,r1.proposals,r1.proposed,r1.watches,r1.lasts,r3.2.l,r3.2.pos,r3.2.seed) 2 h (sR [(4,1,0),(5,2,4),(13,2,3)]) (fun a _ h=>?_)
 obtain ⟨mf7,x92,x93,x94,x95,x96,x97,x98,x99,x100,x101,x102,x103⟩:=a
 obtain ⟨mf7,rfl,h⟩:=Zo hf7 h
 dsimp only at h ⊢
 refine Zh ?_
 refine rg ?_
 refine cS h rfl (fun h=>?_) fun h=>?_
 ·refine Zax h fun k8 hk8 h=>?_
  refine ZaO (α:=Int×Int×(List Stored)×(List Stored)×(List Proposal)×Int×(List Watch)×(List Last)×(List Int)×Int×Int) (fun a _=>mkS [(4,.ptr 4 (1,4) 0),(5,.ptr 5 (1,5) 0),(6,.ptr 13 (1,13) 0),(7,.int .i64 x92)] [(4,some ((1,4),.box [.int .i64 0,.int .i64 0,.nil,.nil,.nil,.int .i64 0,.nil,.nil])),(5,some ((1,5),.box [.int .i64 a.1,.int .i64 a.2.1,.sl (List.map Stored.cs a.2.2.1),.sl (List.map Stored.cs a.2.2.2.1),.sl (List.map Proposal.cs a.2.2.2.2.1),.int .i64 a.2.2.2.2.2.1,.sl (List.map Watch.cs a.2.2.2.2.2.2.1),.sl (List.map Last.cs a.2.2.2.2.2.2.2.1)])),(13,some ((1,13),.box [.sl (List.map csI a.2.2.2.2.2.2.2.2.1),.int .i64 a.2.2.2.2.2.2.2.2.2.1,.int .u64 a.2.2.2.2.2.2.2.2.2.2]))] 2) (fun a=>k8 a.1 a.2.1 a.2.2.1 a.2.2.2.1 a.2.2.2.2.1 a.2.2.2.2.2.1 a.2.2.2.2.2.2.1 a.2.2.2.2.2.2.2.1 a.2.2.2.2.2.2.2.2.1 a.2.2.2.2.2.2.2.2.2.1 a.2.2.2.2.2.2.2.2.2.2=some r) (Zh ?_) (fun a _ h=>?_)
  ·refine bl ?_
   refine rg ?_
   refine aO h (Zy _ _) fun r138 h=>?_
   obtain ⟨c139,h49,h⟩:=bnd h
   refine Zpa (p:=PV.str) rfl h49 rfl rfl rfl rfl rfl (Zh ?_)
   refine aO h (Zgj _) fun r140 h=>?_
   refine ZZ (M:=([(⟨7,c139,(⟨#[]⟩:ByteArray),r140.1,(⟨0,(⟨#[]⟩:ByteArray)⟩:Title),(⟨#[]⟩:ByteArray),0,[]⟩:Change)]:List Change)) (f:=Change.cs) rfl rfl rfl rfl (Nat.le_of_ble_eq_true rfl) rfl (Zh ?_)
   refine aC h (ZbT _ _) fun r141 h=>?_
   refine rg ?_
   refine cS h rfl (fun h=>?_) fun h=>?_
   ·refine rg ?_
    exact jn (r141.1.seq,r141.1.clock,r141.1.pages,r141.1.gone,r141.1.proposals,r141.1.proposed,r141.1.watches,r141.1.lasts,r140.2.l,r140.2.pos,r140.2.seed) h (sR [(4,1,4),(5,1,5),(13,1,13)])
   exact jn (x93,x94,x95,x96,x97,x98,x99,x100,r140.2.l,r140.2.pos,r140.2.seed) h (sR [(4,1,4),(5,1,5),(13,1,13)])
  obtain ⟨x127,x128,x129,x130,x131,x132,x133,x134,x135,x136,x137⟩:=a
  subst hk8
  dsimp only at h ⊢
  refine Zh ?_
  refine rg ?_
  exact rn (mf7,(w64 (x92 - 1)),x127,x128,x129,x130,x131,x132,x133,x134,x135,x136,x137) h (sR [(4,1,4),(5,1,5),(13,1,13)])
 refine rg ?_
 cases h
 exact rQ
end Go.Proofs.YtjoneoobolnnbaaGreatDoor
namespace Go.Proofs.YtjoneoobolnnbaaGreatDoor
open VL
section
variable {α:Type}
theorem ZT (A B:List α) (x:α) {i:Int} (h:i=(A.length:Int)):atI (A++x::B) i=some x:=by
 subst h
 rw [Zgd]
 simp
theorem ZaF (A B:List α) (x y:α) {i:Int} (h:i=(A.length:Int)):ZaS (A++x::B) i y=A++y::B:=by
 subst h
 unfold ZaS
 rw [Int.toNat_natCast,List.set_append_right _ _ (Nat.le_refl _),Nat.sub_self]
 rfl
theorem ZdS (A M B:List α) (x y:α) {i:Int} (h:i=(A.length:Int)+1+(M.length:Int)):atI (A++x::(M++y::B)) i=some y:=by
 have:=ZT (A++x::M) B y (i:=i) (by simp;omega)
 simpa using this
theorem ZfY (A M B:List α) (x y:α) {i j:Int} (hi:i=(A.length:Int)) (hj:j=(A.length:Int)+1+(M.length:Int)):ZaS (ZaS (A++x::(M++y::B)) i y) j x=A++y::(M++x::B):=by
 rw [ZaF A _ x y hi]
 have:=ZaF (A++y::M) B y x (i:=j) (by simp;omega)
 simpa using this
theorem Zla (l:List α) (i:Int) (h0:0≤i) (h1:i<(l.length:Int)):∃ A x B,l=A++x::B∧(A.length:Int)=i:=by
 have hl:i.toNat<l.length:=by omega
 refine ⟨l.take i.toNat,l[i.toNat],l.drop (i.toNat+1),?_,?_⟩
 ·rw [List.getElem_cons_drop,List.take_append_drop]
 ·rw [List.length_take]
  omega
theorem ZcJ (l:List α) (n:Nat) (h:n≤l.length):∃ A B,l=A++B∧A.length=n:=⟨l.take n,l.drop n,(List.take_append_drop ..).symm,by rw [List.length_take];omega⟩
structure Ord (lt:α→α→Bool):Prop where
 asym:∀ a b,lt a b=true→lt b a=false
 tr:∀ a b c,lt b a=false→lt c b=false→lt c a=false
def Srt (lt:α→α→Bool) (l:List α):Prop:=l.Pairwise fun a b=>lt b a=false
variable {lt:α→α→Bool}
theorem Ord.irr (o:Ord lt) (a:α):lt a a=false:=by
 cases h:lt a a
 ·rfl
 ·rw [o.asym a a h] at h
  cases h
theorem Zfy (o:Ord lt) {l:List α} {u:α} (h:Srt lt (l ++ [u])):∀ a ∈ l ++ [u],lt u a=false:=fun a ha=>by
 rcases List.mem_append.1 ha with h1 | h1
 ·exact (List.pairwise_append.1 h).2.2 a h1 u (List.mem_cons_self ..)
 ·rw [List.mem_singleton.1 h1]
  exact o.irr u
theorem Zfz (o:Ord lt) {l:List α} {v:α} (h:Srt lt (v::l)):∀ b ∈ v::l,lt b v=false:=fun b hb=>by
 rcases List.mem_cons.1 hb with h1 | h1
 ·rw [h1]
  exact o.irr v
 ·exact (List.pairwise_cons.1 h).1 b h1
theorem Zj8 (o:Ord lt) {X1 X2 Y1 Y2:List α} (hX:Srt lt (X1++X2)) (hY:Srt lt (Y1++Y2)) (h1:∀ P x y Q,X1=P ++ [x]→Y2=y::Q→lt y x=false) (h2:∀ P x y Q,Y1=P ++ [y]→X2=x::Q→lt y x=true) :
  ∀ a ∈ X1++Y1,∀ b ∈ X2++Y2,lt b a=false:=by
 obtain ⟨x1,x2,x3⟩:=List.pairwise_append.1 hX
 obtain ⟨y1,y2,y3⟩:=List.pairwise_append.1 hY
 intro a ha b hb
 rcases List.mem_append.1 ha with ha | ha
 ·rcases List.mem_append.1 hb with hb | hb
  ·exact x3 a ha b hb
  ·rcases List.eq_nil_or_concat X1 with e | ⟨P,u,e⟩
   ·rw [e] at ha
    cases ha
   ·cases Y2 with
    | nil=>cases hb
    | cons v Q=>
      rw [List.concat_eq_append] at e
      have hu:=Zfy o (l:=P) (u:=u) (by rw [← e];exact x1) a (by rw [← e];exact ha)
      have hv:=Zfz o y2 b hb
      exact o.tr a u b hu (o.tr u v b (h1 P u v Q e rfl) hv)
 ·rcases List.mem_append.1 hb with hb | hb
  ·rcases List.eq_nil_or_concat Y1 with e | ⟨P,u,e⟩
   ·rw [e] at ha
    cases ha
   ·cases X2 with
    | nil=>cases hb
    | cons v Q=>
      rw [List.concat_eq_append] at e
      have hu:=Zfy o (l:=P) (u:=u) (by rw [← e];exact y1) a (by rw [← e];exact ha)
      have hv:=Zfz o x2 b hb
      exact o.tr a u b hu (o.tr u v b (o.asym _ _ (h2 P v u Q e rfl)) hv)
  ·exact y3 a ha b hb
theorem Zj9 {Z1 Z2 W1 W2:List α} (h1:Srt lt Z1) (h2:Srt lt Z2) (p1:Z1.Perm W1) (p2:Z2.Perm W2) (h:∀ a ∈ W1,∀ b ∈ W2,lt b a=false):Srt lt (Z1++Z2):=
 List.pairwise_append.2 ⟨h1,h2,fun a ha b hb=>h a (p1.mem_iff.1 ha) b (p2.mem_iff.1 hb)⟩
theorem ZfA (o:Ord lt) {Y1 Y2:List α} {x:α} (h:Srt lt (Y1++Y2)) (h1:∀ P u,Y1=P ++ [u]→lt x u=false) (h2:∀ v Q,Y2=v::Q→lt v x=false):Srt lt (Y1++x::Y2):=by
 obtain ⟨a1,a2,a3⟩:=List.pairwise_append.1 h
 have k1:∀ a ∈ Y1,lt x a=false:=fun a ha=>by
  rcases List.eq_nil_or_concat Y1 with e | ⟨P,u,e⟩
  ·rw [e] at ha
   cases ha
  ·rw [List.concat_eq_append] at e
   exact o.tr a u x (Zfy o (l:=P) (u:=u) (by rw [← e];exact a1) a (by rw [← e];exact ha)) (h1 P u e)
 have k2:∀ b ∈ Y2,lt b x=false:=fun b hb=>by
  cases Y2 with
  | nil=>cases hb
  | cons v Q=>exact o.tr x v b (h2 v Q rfl) (Zfz o a2 b hb)
 refine List.pairwise_append.2 ⟨a1,List.pairwise_cons.2 ⟨k2,a2⟩,fun a ha b hb=>?_⟩
 rcases List.mem_cons.1 hb with e | e
 ·rw [e]
  exact k1 a ha
 ·exact a3 a ha b e
end
theorem ZpR {x:Int} (h0:0≤x) (h1:x≤9223372036854775807):w64 (Int.fdiv (IntKind.wrap .u64 x) (2 ^ (min (1:Int).toNat (IntKind.bits .u64))))=x / 2:=by
 have e1:IntKind.wrap .u64 x=x:=by
  unfold IntKind.wrap
  simp [IntKind.signed,IntKind.bits]
  omega
 rw [e1]
 have e2:(2:Int) ^ (min (1:Int).toNat (IntKind.bits .u64))=2:=rfl
 rw [e2,Int.fdiv_eq_ediv_of_nonneg _ (by omega)]
 exact Zg (by omega) (by omega)
end Go.Proofs.YtjoneoobolnnbaaGreatDoor
namespace Go.Proofs.YtjoneoobolnnbaaGreatDoor
open VL
section
variable {α:Type}
def ZhM (p0:List α) (p1 p2 p3:Int):Option (List α):=
 ZE Zaj (fun f ((i,d):Int×List α)=>
  if (decide (i<p3)) then
   (atI d (w64 (p2+i))).bind fun x=>
   (atI d (w64 (p1+i))).bind fun y=>
   (atI d (w64 (p1+i))).bind fun _=>
   (atI (ZaS d (w64 (p1+i)) x) (w64 (p2+i))).bind fun _=>
   f ((w64 (i+1)),(ZaS (ZaS d (w64 (p1+i)) x) (w64 (p2+i)) y))
  else
  (some d:Option (List α))) (0,p0)
theorem Zfu (A X M Y B:List α) {n:Nat} (hx:X.length=n) (hy:Y.length=n) (hs:(A++(X++(M++(Y++B)))).length≤1000000) {a b c:Int} (ha:a=(A.length:Int)) (hb:b=(A.length:Int)+n+M.length) (hc:c=(n:Int)) :
  Tot (ZhM (A++(X++(M++(Y++B)))) a b c) fun r=>r=A++(Y++(M++(X++B))):=by
 simp only [List.length_append] at hs
 unfold ZhM
 refine Zj (fun q:Int×List α=>∃ X1 X2 Y1 Y2,X=X1++X2∧Y=Y1++Y2∧Y1.length=X1.length∧q.1=(X1.length:Int)∧q.2=A++(Y1++(X2++(M++(X1++(Y2++B)))))) (fun q=>(c - q.1).toNat) ⟨[],X,[],Y,rfl,rfl,rfl,rfl,rfl⟩ (by dsimp only;omega) ?_
 rintro ⟨i,d⟩ rec ⟨X1,X2,Y1,Y2,e1,e2,e3,e4,e5⟩ ih
 dsimp only at e4 e5 ⊢
 subst e4 e5
 have l1:X1.length+X2.length=n:=by rw [← hx,e1,List.length_append]
 have l2:Y1.length+Y2.length=n:=by rw [← hy,e2,List.length_append]
 refine Zc (fun h=>?_) fun h=>?_
 ·cases X2 with
  | nil=>simp at l1;omega
  | cons x X2=>
    cases Y2 with
    | nil=>simp at l2;omega
    | cons y Y2=>
      simp only [List.length_cons] at l1 l2
      have ea:w64 (a+(X1.length:Int))=((A++Y1).length:Int):=(Zg (by omega) (by omega)).trans (by rw [List.length_append];omega)
      have eb:w64 (b+(X1.length:Int))=((A++Y1).length:Int)+1+((X2++(M++X1)).length:Int):=(Zg (by omega) (by omega)).trans (by simp only [List.length_append];omega)
      have ed:A++(Y1++(x::X2++(M++(X1++(y::Y2++B)))))=(A++Y1)++x::((X2++(M++X1))++y::(Y2++B)):=by simp
      rw [ed]
      refine Za (v:=y) (ZdS (A++Y1) (X2++(M++X1)) (Y2++B) x y eb) ?_
      refine Za (v:=x) (ZT _ _ _ ea) ?_
      refine Za (v:=x) (ZT _ _ _ ea) ?_
      refine Za (v:=y) (by rw [ZaF _ _ _ _ ea];exact ZdS _ _ _ _ _ eb) ?_
      rw [ZfY _ _ _ _ _ ea eb]
      refine ih _ ⟨X1 ++ [x],X2,Y1 ++ [y],Y2,by simp [e1],by simp [e2],by simp [e3],?_,by simp⟩ ?_
      ·exact (Zg (by omega) (by omega)).trans (by simp)
      ·dsimp only
       rw [Zg (by omega) (by omega)]
       omega
 ·have h1:X2 = []:=List.length_eq_zero_iff.1 (by omega)
  have h2:Y2 = []:=List.length_eq_zero_iff.1 (by omega)
  subst h1 h2
  simp only [List.append_nil] at e1 e2
  subst e1 e2
  exact Zb rfl
def ZtK (p0:List α) (p1 p2 p3:Int):Option (List α):=
 ZE Zaj (fun f ((i,j,d):Int×Int×List α)=>
  if (!decide (i=j)) then
   if (decide (j<i)) then
    (ZhM d (w64 (p2 - i)) p2 j).bind fun r=>
    f ((w64 (i - j)),j,r)
   else
   (ZhM d (w64 (p2 - i)) (w64 ((w64 (p2+j)) - i)) i).bind fun r=>
   f (i,(w64 (j - i)),r)
  else
  (ZhM d (w64 (p2 - i)) p2 i).bind fun r=>
  (some r:Option (List α))) ((w64 (p2 - p1)),(w64 (p3 - p2)),p0)
theorem Zpr (A U V B:List α) (hU:U≠[]) (hV:V≠[]) (hs:(A++(U++(V++B))).length≤1000000) {a m b:Int} (ha:a=(A.length:Int)) (hm:m=(A.length:Int)+U.length) (hb:b=(A.length:Int)+U.length+V.length) :
  Tot (ZtK (A++(U++(V++B))) a m b) fun r=>r=A++(V++(U++B)):=by
 simp only [List.length_append] at hs
 have u1:0<U.length:=List.length_pos_iff.2 hU
 have v1:0<V.length:=List.length_pos_iff.2 hV
 unfold ZtK
 rw [Zg (by omega) (by omega),Zg (by omega) (by omega)]
 refine Zj (fun q:Int×Int×List α=>∃ L U' V' R,q.1=(U'.length:Int)∧q.2.1=(V'.length:Int)∧0<U'.length∧0<V'.length∧q.2.2=A++(L++(U'++(V'++(R++B))))∧L++(V'++(U'++R))=V++U∧(L.length:Int)+U'.length=U.length) (fun q=>(q.1+q.2.1).toNat)
  ⟨[],U,V,[],by dsimp only;omega,by dsimp only;omega,u1,v1,rfl,by simp,by simp⟩ (by dsimp only;omega) ?_
 rintro ⟨i,j,d⟩ rec ⟨L,U',V',R,e1,e2,p1,p2,e3,e4,e5⟩ ih
 dsimp only at e1 e2 e3 ⊢
 subst e1 e2 e3
 have hl:L.length+V'.length+U'.length+R.length=V.length+U.length:=by
  have:=congrArg List.length e4
  simp only [List.length_append] at this
  omega
 refine ZQ (fun h=>?_) fun h=>?_
 ·refine Zc (fun hlt=>?_) fun hlt=>?_
  ·obtain ⟨U1,U2,c1,c2⟩:=ZcJ U' V'.length (by omega)
   have hu2:U1.length+U2.length=U'.length:=by rw [c1,List.length_append]
   refine Zf (Q:=fun r=>r=(A++L)++(V'++(U2++(U1++(R++B))))) ?_ fun r hr=>?_
   ·have:=Zfu (A++L) U1 U2 V' (R++B) (n:=V'.length) c2 rfl (by simp only [List.length_append];omega) (a:=w64 (m - (U'.length:Int))) (b:=m) (c:=(V'.length:Int)) ((Zg (by omega) (by omega)).trans (by rw [List.length_append];omega)) (by rw [List.length_append];omega) rfl
    rw [c1]
    rw [show A++(L++((U1++U2)++(V'++(R++B))))=(A++L)++(U1++(U2++(V'++(R++B)))) by simp]
    rw [← c1]
    exact this
   ·subst hr
    refine ih _ ⟨L++V',U2,U1,R,?_,?_,by omega,by omega,by simp,?_,?_⟩ ?_
    ·exact (Zg (by omega) (by omega)).trans (by omega)
    ·dsimp only
     omega
    ·rw [← e4,c1]
     simp
    ·rw [List.length_append]
     omega
    ·dsimp only
     rw [Zg (by omega) (by omega)]
     omega
  ·obtain ⟨V1,V2,c1,c2⟩:=ZcJ V' (V'.length - U'.length) (by omega)
   have hv2:V1.length+V2.length=V'.length:=by rw [c1,List.length_append]
   refine Zf (Q:=fun r=>r=(A++L)++(V2++(V1++(U'++(R++B))))) ?_ fun r hr=>?_
   ·have:=Zfu (A++L) U' V1 V2 (R++B) (n:=U'.length) rfl (by omega) (by simp only [List.length_append];omega) (a:=w64 (m - (U'.length:Int))) (b:=w64 (w64 (m+(V'.length:Int)) - (U'.length:Int))) (c:=(U'.length:Int)) ((Zg (by omega) (by omega)).trans (by rw [List.length_append];omega)) (by
     rw [Zg (n:=m+(V'.length:Int)) (by omega) (by omega),Zg (by omega) (by omega),List.length_append]
     omega) rfl
    rw [c1]
    rw [show A++(L++(U'++((V1++V2)++(R++B))))=(A++L)++(U'++(V1++(V2++(R++B)))) by simp]
    rw [← c1]
    exact this
   ·subst hr
    refine ih _ ⟨L,V2,V1,U'++R,?_,?_,by omega,by omega,by simp,?_,?_⟩ ?_
    ·dsimp only
     omega
    ·exact (Zg (by omega) (by omega)).trans (by omega)
    ·rw [← e4,c1]
     simp
    ·omega
    ·dsimp only
     rw [Zg (by omega) (by omega)]
     omega
 ·refine Zf (Zfu (A++L) U' [] V' (R++B) (n:=U'.length) rfl (by omega) (by simp only [List.length_append,List.length_nil];omega) (a:=w64 (m - (U'.length:Int))) (b:=m) (c:=(U'.length:Int)) ((Zg (by omega) (by omega)).trans (by rw [List.length_append];omega)) (by rw [List.length_append,List.length_nil];omega) rfl |> fun t=>by
   rw [show A++(L++(U'++(V'++(R++B))))=(A++L)++(U'++([]++(V'++(R++B)))) by simp]
   exact t) fun r hr=>?_
  refine Zb ?_
  rw [hr]
  have:A++((L++(V'++(U'++R)))++B)=A++((V++U)++B):=by rw [e4]
  simpa using this
end
end Go.Proofs.YtjoneoobolnnbaaGreatDoor
namespace Go.Proofs.YtjoneoobolnnbaaGreatDoor
open VL
section
variable {α:Type}
def ZeE (cmp:α→α→Option Int) (lt:α→α→Bool):Prop:=∀ a b,Tot (cmp a b) fun r=>decide (r<0)=lt a b
def Zpq (cmp:α→α→Option Int) (p0:List α) (p1 p2:Int):Option (List α):=
 ZE Zaj (fun f ((i,d):Int×List α)=>
  if (decide (i<p2)) then
   ZE Zaj (fun g ((j,d):Int×List α)=>
    letk (fun (x:Bool)=>
     if x then
      (atI d (w64 (j - 1))).bind fun u=>
      (atI d j).bind fun v=>
      (atI d j).bind fun _=>
      (atI (ZaS d j u) (w64 (j - 1))).bind fun _=>
      g ((w64 (j - 1)),(ZaS (ZaS d j u) (w64 (j - 1)) v))
     else
     f ((w64 (i+1)),d)) fun k=>
    if (decide (p1<j)) then
     (atI d j).bind fun v=>
     (atI d (w64 (j - 1))).bind fun u=>
     (cmp v u).bind fun r=>
     k (decide (r<0))
    else
    k false) (i,d)
  else
  (some d:Option (List α))) ((w64 (p1+1)),p0)
theorem ZhL {cmp:α→α→Option Int} {lt:α→α→Bool} (o:Ord lt) (hc:ZeE cmp lt) (A X B:List α) (hs:(A++(X++B)).length≤1000000) {a b:Int} (ha:a=(A.length:Int)) (hb:b=(A.length:Int)+X.length) :
  Tot (Zpq cmp (A++(X++B)) a b) fun r=>∃ Z,r=A++(Z++B)∧Z.Perm X∧Srt lt Z:=by
 simp only [List.length_append] at hs
 unfold Zpq
 rw [Zg (by omega) (by omega)]
 cases X with
 | nil=>
   unfold Zaj
   refine ⟨A++([]++B),?_,[],rfl,List.Perm.refl _,List.Pairwise.nil⟩
   show (if decide (a+1<b)=true then _ else some (A++([]++B)))=some (A++([]++B))
   rw [if_neg (by simp only [List.length_nil] at hb;simp;omega)]
 | cons x0 X=>
 simp only [List.length_cons] at hs hb
 refine Zj (fun q:Int×List α=>∃ Z W,0<Z.length∧q.1=(A.length:Int)+Z.length∧q.2=A++(Z++(W++B))∧Srt lt Z∧(Z++W).Perm (x0::X)) (fun q=>(b - q.1).toNat) ⟨[x0],X,by simp,by simp [ha],by simp,List.pairwise_singleton ..,List.Perm.refl _⟩ (by dsimp only;omega) ?_
 rintro ⟨i,d⟩ rec ⟨Z,W,z0,e1,e2,e3,e4⟩ ih
 dsimp only at e1 e2 ⊢
 subst e1 e2
 have hl:Z.length+W.length=X.length+1:=by
  have:=e4.length_eq
  simpa using this
 refine Zc (fun h=>?_) fun h=>?_
 ·cases W with
  | nil=>simp at hl;omega
  | cons v W=>
  simp only [List.length_cons] at hl
  have fin:∀ (P Q:List α),P++Q=Z→(∀ P' u,P=P' ++ [u]→lt v u=false)→(∀ w Q',Q=w::Q'→lt v w=true)→Tot (rec ((w64 ((A.length:Int)+Z.length+1)),A++(P++(v::(Q++(W++B)))))) fun r=>∃ Z,r=A++(Z++B)∧Z.Perm (x0::X)∧Srt lt Z:=fun P Q hPQ h1 h2=>by
   refine ih _ ⟨P++v::Q,W,by simp only [List.length_append,List.length_cons];omega,?_,by simp,ZfA o (by rw [hPQ];exact e3) h1 (fun w Q' e=>o.asym _ _ (h2 w Q' e)),?_⟩ ?_
   ·rw [← hPQ]
    exact (Zg (by rw [← hPQ] at hl;simp only [List.length_append] at hl ⊢;omega) (by rw [← hPQ] at hl;simp only [List.length_append] at hl ⊢;omega)).trans (by simp;omega)
   ·refine List.Perm.trans ?_ e4
    rw [← hPQ]
    have:(P++v::Q).Perm (P++Q ++ [v]):=by
     have:=(List.perm_middle (a:=v) (l₁:=P) (l₂:=Q)).trans (List.perm_append_singleton v (P++Q)).symm
     exact this
    have h3:=this.append_right W
    simpa using h3
   ·dsimp only
    rw [Zg (by omega) (by omega)]
    omega
  refine Zj (fun q:Int×List α=>∃ P Q,q.1=(A.length:Int)+P.length∧q.2=A++(P++(v::(Q++(W++B))))∧P++Q=Z∧∀ w Q',Q=w::Q'→lt v w=true) (fun q=>q.1.toNat) ⟨Z,[],rfl,by simp,by simp,fun w Q' e=>by cases e⟩ (by dsimp only;omega) ?_
  rintro ⟨j,d⟩ rec2 ⟨P,Q,f1,f2,f3,f4⟩ ih2
  dsimp only at f1 f2 ⊢
  subst f1 f2
  have hpq:P.length+Q.length=Z.length:=by rw [← f3,List.length_append]
  refine ZJ ?_
  refine Zc (fun h=>?_) fun h=>?_
  ·rcases List.eq_nil_or_concat P with e | ⟨P',u,e⟩
   ·rw [e] at h
    simp at h
    omega
   rw [List.concat_eq_append] at e
   subst e
   simp only [List.length_append,List.length_cons,List.length_nil] at h hpq ⊢
   have i1:((A.length:Int)+((P'.length+(0+1):Nat):Int))=((A++(P' ++ [u])).length:Int):=by simp<;>omega
   have i2:w64 ((A.length:Int)+((P'.length+(0+1):Nat):Int) - 1)=((A++P').length:Int):=(Zg (by omega) (by omega)).trans (by simp;omega)
   have d1:A++(P' ++ [u]++(v::(Q++(W++B))))=(A++(P' ++ [u]))++v::(Q++(W++B)):=by simp
   have d2:A++(P' ++ [u]++(v::(Q++(W++B))))=(A++P')++u::(v::(Q++(W++B))):=by simp
   have g1:atI (A++(P' ++ [u]++(v::(Q++(W++B))))) ((A.length:Int)+((P'.length+(0+1):Nat):Int))=some v:=by
    rw [d1]
    exact ZT _ _ _ i1
   have g2:atI (A++(P' ++ [u]++(v::(Q++(W++B))))) (w64 ((A.length:Int)+((P'.length+(0+1):Nat):Int) - 1))=some u:=by
    rw [d2]
    exact ZT _ _ _ i2
   have s1:ZaS (A++(P' ++ [u]++(v::(Q++(W++B))))) ((A.length:Int)+((P'.length+(0+1):Nat):Int)) u=(A++P')++u::(u::(Q++(W++B))):=by
    rw [d1,ZaF _ _ _ _ i1]
    simp
   refine Za (v:=v) g1 ?_
   refine Za (v:=u) g2 ?_
   refine Zf (hc v u) fun r hr=>?_
   refine Zc (fun hlt=>?_) fun hlt=>?_
   ·refine Za (v:=u) g2 ?_
    refine Za (v:=v) g1 ?_
    refine Za (v:=v) g1 ?_
    rw [s1]
    refine Za (v:=u) (ZT _ _ _ i2) ?_
    rw [ZaF _ _ _ _ i2]
    refine ih2 _ ⟨P',u::Q,?_,by simp,by rw [← f3];simp,fun w Q' e=>?_⟩ ?_
    ·dsimp only
     rw [i2]
     simp only [List.length_append,List.length_cons,List.length_nil]
     omega
    ·injection e with e _
     rw [← e,← hr]
     exact decide_eq_true hlt
    ·dsimp only
     rw [i2]
     simp only [List.length_append,List.length_cons,List.length_nil]
     omega
   ·refine fin (P' ++ [u]) Q f3 (fun P2 u2 e=>?_) f4
    have:=List.append_inj_right' e rfl
    injection this with this
    rw [← this,← hr]
    exact decide_eq_false hlt
  ·have:P = []:=List.length_eq_zero_iff.1 (by omega)
   subst this
   exact Zaw (b:=false) (fun h=>by cases h) fun _=>fin [] Q f3 (fun P2 u2 e=>by simp at e) f4
 ·have:W = []:=List.length_eq_zero_iff.1 (by omega)
  subst this
  exact Zb ⟨Z,by simp,by simpa using e4,e3⟩
end
end Go.Proofs.YtjoneoobolnnbaaGreatDoor
namespace Go.Proofs.YtjoneoobolnnbaaGreatDoor
open VL
section
variable {α:Type}
theorem Zcz {β:Type} {x:Int} {f:Int→Option β} {R:β→Prop} (h0:0≤x) (h1:x≤1000000000) (k:∀ q,w64 q=x / 2→Tot (f q) R):Tot ((Zjf .u64 (IntKind.wrap .u64 (w64 x)) 1).bind f) R:=
 Zkn (by decide) (k _ (by
  rw [Zg (n:=x) (by omega) (by omega)]
  exact ZpR h0 (by omega)))
def ZlP (cmp:α→α→Option Int) (p0:List α) (p1 p2 p3:Int):Option (List α):=
 ZE Zaj (fun f ((i,j):Int×Int)=>
  if (decide (i<j)) then
   (Zjf .u64 (IntKind.wrap .u64 (w64 (i+j))) 1).bind fun q=>
   (atI p0 (w64 q)).bind fun x=>
   (atI p0 p1).bind fun y=>
   (cmp x y).bind fun r=>
   if (decide (r<0)) then
    f ((w64 ((w64 q)+1)),j)
   else
   f (i,(w64 q))
  else
  ZE Zaj (fun g ((k,d):Int×List α)=>
   if (decide (k<w64 (i - 1))) then
    (atI d (w64 (k+1))).bind fun x=>
    (atI d k).bind fun y=>
    (atI d k).bind fun _=>
    (atI (ZaS d k x) (w64 (k+1))).bind fun _=>
    g ((w64 (k+1)),(ZaS (ZaS d k x) (w64 (k+1)) y))
   else
   (some d:Option (List α))) (p1,p0)) (p2,p3)
theorem ZlQ {cmp:α→α→Option Int} {lt:α→α→Bool} (o:Ord lt) (hc:ZeE cmp lt) (A Y B:List α) (x:α) (hY:Srt lt Y) (hs:(A++(x::(Y++B))).length≤1000000) {a m b:Int} (ha:a=(A.length:Int)) (hm:m=(A.length:Int)+1) (hb:b=(A.length:Int)+1+Y.length) :
  Tot (ZlP cmp (A++(x::(Y++B))) a m b) fun r=>∃ Z,r=A++(Z++B)∧Z.Perm (x::Y)∧Srt lt Z:=by
 simp only [List.length_append,List.length_cons] at hs
 unfold ZlP
 refine Zj (fun q:Int×Int=>∃ Y1 Y2 Y3,Y=Y1++(Y2++Y3)∧q.1=m+(Y1.length:Int)∧q.2=m+(Y1.length:Int)+Y2.length∧(∀ P u,Y1=P ++ [u]→lt u x=true)∧∀ v Q,Y3=v::Q→lt v x=false) (fun q=>(q.2 - q.1).toNat)
  ⟨[],Y,[],by simp,by simp,by simp;omega,fun P u e=>by simp at e,fun v Q e=>by cases e⟩ (by dsimp only;omega) ?_
 rintro ⟨i,j⟩ rec ⟨Y1,Y2,Y3,e0,e1,e2,e3,e4⟩ ih
 dsimp only at e1 e2 ⊢
 subst e1 e2
 have hl:Y1.length+(Y2.length+Y3.length)=Y.length:=by rw [e0];simp
 refine Zc (fun h=>?_) fun h=>?_
 ·refine Zcz (by omega) (by omega) fun q hq=>?_
  rw [hq]
  obtain ⟨Q1,v,Q2,c1,c2⟩:=Zla Y2 ((m+(Y1.length:Int)+(m+(Y1.length:Int)+Y2.length)) / 2 - (m+(Y1.length:Int))) (by omega) (by omega)
  have hl2:Y2.length=Q1.length+(1+Q2.length):=by rw [c1];simp;omega
  have g1:atI (A++(x::(Y++B))) ((m+(Y1.length:Int)+(m+(Y1.length:Int)+Y2.length)) / 2)=some v:=by
   have:=ZT (A++x::(Y1++Q1)) (Q2++(Y3++B)) v (i:=(m+(Y1.length:Int)+(m+(Y1.length:Int)+Y2.length)) / 2) (by simp only [List.length_append,List.length_cons];omega)
   rw [← this,e0,c1]
   simp
  refine Za (v:=v) g1 ?_
  refine Za (v:=x) (ZT A _ x ha) ?_
  refine Zf (hc v x) fun r hr=>?_
  refine Zc (fun hlt=>?_) fun hlt=>?_
  ·refine ih _ ⟨Y1++(Q1 ++ [v]),Q2,Y3,by rw [e0,c1];simp,?_,?_,fun P u e=>?_,e4⟩ ?_
   ·exact (Zg (by omega) (by omega)).trans (by simp;omega)
   ·simp only [List.length_append,List.length_cons,List.length_nil]
    omega
   ·have : [v] = [u]:=List.append_inj_right' (s₁:=Y1++Q1) (by simpa using e) rfl
    injection this with this
    rw [← this,← hr]
    exact decide_eq_true hlt
   ·dsimp only
    rw [Zg (by omega) (by omega)]
    omega
  ·refine ih _ ⟨Y1,Q1,v::(Q2++Y3),by rw [e0,c1];simp,rfl,by dsimp only;omega,e3,fun w Q e=>?_⟩ (by dsimp only;omega)
   injection e with e _
   rw [← e,← hr]
   exact decide_eq_false hlt
 ·have hY2:Y2 = []:=List.length_eq_zero_iff.1 (by omega)
  subst hY2
  rw [List.nil_append] at e0
  rw [Zg (by omega) (by omega)]
  refine Zj (fun q:Int×List α=>∃ W1 W2,Y1=W1++W2∧q.2=A++(W1++(x::(W2++(Y3++B))))∧q.1=(A.length:Int)+W1.length) (fun q=>(m+(Y1.length:Int) - q.1).toNat) ⟨[],Y1,rfl,by rw [e0];simp,by simp [ha]⟩ (by dsimp only;omega) ?_
  rintro ⟨k,d⟩ rec2 ⟨W1,W2,f0,f1,f2⟩ ih2
  dsimp only at f1 f2 ⊢
  subst f1 f2
  have hw:W1.length+W2.length=Y1.length:=by rw [f0];simp
  refine Zc (fun h=>?_) fun h=>?_
  ·cases W2 with
   | nil=>simp at hw;omega
   | cons w W2=>
   simp only [List.length_cons] at hw
   have i1:((A.length:Int)+W1.length)=((A++W1).length:Int):=by rw [List.length_append];omega
   have i2:w64 ((A.length:Int)+W1.length+1)=((A++W1).length:Int)+1+(([]:List α).length:Int):=(Zg (by omega) (by omega)).trans (by simp)
   have d1:A++(W1++(x::(w::W2++(Y3++B))))=(A++W1)++x::([]++w::(W2++(Y3++B))):=by simp
   rw [d1]
   refine Za (v:=w) (ZdS _ _ _ _ _ i2) ?_
   refine Za (v:=x) (ZT _ _ _ i1) ?_
   refine Za (v:=x) (ZT _ _ _ i1) ?_
   refine Za (v:=w) (by rw [ZaF _ _ _ _ i1];exact ZdS _ _ _ _ _ i2) ?_
   rw [ZfY _ _ _ _ _ i1 i2]
   refine ih2 _ ⟨W1 ++ [w],W2,by rw [f0];simp,by simp,?_⟩ ?_
   ·dsimp only
    rw [i2]
    simp only [List.length_append,List.length_cons,List.length_nil]
    omega
   ·dsimp only
    rw [i2]
    simp only [List.length_append,List.length_cons,List.length_nil]
    omega
  ·have hW2:W2 = []:=List.length_eq_zero_iff.1 (by omega)
   subst hW2
   rw [List.append_nil] at f0
   subst f0
   refine Zb ⟨Y1++x::Y3,by simp,?_,ZfA o (by rw [← e0];exact hY) (fun P u e=>o.asym _ _ (e3 P u e)) e4⟩
   rw [e0]
   exact List.perm_middle
def ZlR (cmp:α→α→Option Int) (p0:List α) (p1 p2 p3:Int):Option (List α):=
 ZE Zaj (fun f ((i,j):Int×Int)=>
  if (decide (i<j)) then
   (Zjf .u64 (IntKind.wrap .u64 (w64 (i+j))) 1).bind fun q=>
   (atI p0 p2).bind fun x=>
   (atI p0 (w64 q)).bind fun y=>
   (cmp x y).bind fun r=>
   if (!decide (r<0)) then
    f ((w64 ((w64 q)+1)),j)
   else
   f (i,(w64 q))
  else
  ZE Zaj (fun g ((k,d):Int×List α)=>
   if (decide (i<k)) then
    (atI d (w64 (k - 1))).bind fun x=>
    (atI d k).bind fun y=>
    (atI d k).bind fun _=>
    (atI (ZaS d k x) (w64 (k - 1))).bind fun _=>
    g ((w64 (k - 1)),(ZaS (ZaS d k x) (w64 (k - 1)) y))
   else
   (some d:Option (List α))) (p2,p0)) (p1,p2)
theorem ZlS {cmp:α→α→Option Int} {lt:α→α→Bool} (o:Ord lt) (hc:ZeE cmp lt) (A X B:List α) (y:α) (hX:Srt lt X) (hs:(A++(X++(y::B))).length≤1000000) {a m b:Int} (ha:a=(A.length:Int)) (hm:m=(A.length:Int)+X.length) :
  Tot (ZlR cmp (A++(X++(y::B))) a m b) fun r=>∃ Z,r=A++(Z++B)∧Z.Perm (y::X)∧Srt lt Z:=by
 simp only [List.length_append,List.length_cons] at hs
 unfold ZlR
 refine Zj (fun q:Int×Int=>∃ X1 X2 X3,X=X1++(X2++X3)∧q.1=a+(X1.length:Int)∧q.2=a+(X1.length:Int)+X2.length∧(∀ P u,X1=P ++ [u]→lt y u=false)∧∀ v Q,X3=v::Q→lt y v=true) (fun q=>(q.2 - q.1).toNat)
  ⟨[],X,[],by simp,by simp,by simp;omega,fun P u e=>by simp at e,fun v Q e=>by cases e⟩ (by dsimp only;omega) ?_
 rintro ⟨i,j⟩ rec ⟨X1,X2,X3,e0,e1,e2,e3,e4⟩ ih
 dsimp only at e1 e2 ⊢
 subst e1 e2
 have hl:X1.length+(X2.length+X3.length)=X.length:=by rw [e0];simp
 have gy:atI (A++(X++(y::B))) m=some y:=by
  have:=ZT (A++X) B y (i:=m) (by rw [List.length_append];omega)
  rw [← this]
  simp
 refine Zc (fun h=>?_) fun h=>?_
 ·refine Zcz (by omega) (by omega) fun q hq=>?_
  rw [hq]
  obtain ⟨Q1,v,Q2,c1,c2⟩:=Zla X2 ((a+(X1.length:Int)+(a+(X1.length:Int)+X2.length)) / 2 - (a+(X1.length:Int))) (by omega) (by omega)
  have hl2:X2.length=Q1.length+(1+Q2.length):=by rw [c1];simp;omega
  have g1:atI (A++(X++(y::B))) ((a+(X1.length:Int)+(a+(X1.length:Int)+X2.length)) / 2)=some v:=by
   have:=ZT (A++(X1++Q1)) (Q2++(X3++(y::B))) v (i:=(a+(X1.length:Int)+(a+(X1.length:Int)+X2.length)) / 2) (by simp only [List.length_append,List.length_cons];omega)
   rw [← this,e0,c1]
   simp
  refine Za (v:=y) gy ?_
  refine Za (v:=v) g1 ?_
  refine Zf (hc y v) fun r hr=>?_
  refine ZQ (fun hlt=>?_) fun hlt=>?_
  ·refine ih _ ⟨X1++(Q1 ++ [v]),Q2,X3,by rw [e0,c1];simp,?_,?_,fun P u e=>?_,e4⟩ ?_
   ·exact (Zg (by omega) (by omega)).trans (by simp;omega)
   ·simp only [List.length_append,List.length_cons,List.length_nil]
    omega
   ·have : [v] = [u]:=List.append_inj_right' (s₁:=X1++Q1) (by simpa using e) rfl
    injection this with this
    rw [← this,← hr]
    exact decide_eq_false hlt
   ·dsimp only
    rw [Zg (by omega) (by omega)]
    omega
  ·refine ih _ ⟨X1,Q1,v::(Q2++X3),by rw [e0,c1];simp,rfl,by dsimp only;omega,e3,fun w Q e=>?_⟩ (by dsimp only;omega)
   injection e with e _
   rw [← e,← hr]
   exact decide_eq_true hlt
 ·have hX2:X2 = []:=List.length_eq_zero_iff.1 (by omega)
  subst hX2
  rw [List.nil_append] at e0
  refine Zj (fun q:Int×List α=>∃ W1 W2,X3=W1++W2∧q.2=A++(X1++(W1++(y::(W2++B))))∧q.1=(A.length:Int)+X1.length+W1.length) (fun q=>q.1.toNat) ⟨X3,[],by simp,by rw [e0];simp,by dsimp only;omega⟩ (by dsimp only;omega) ?_
  rintro ⟨k,d⟩ rec2 ⟨W1,W2,f0,f1,f2⟩ ih2
  dsimp only at f1 f2 ⊢
  subst f1 f2
  have hw:W1.length+W2.length=X3.length:=by rw [f0];simp
  refine Zc (fun h=>?_) fun h=>?_
  ·rcases List.eq_nil_or_concat W1 with e | ⟨W,w,e⟩
   ·rw [e] at h
    simp at h
    omega
   rw [List.concat_eq_append] at e
   subst e
   simp only [List.length_append,List.length_cons,List.length_nil] at h hw ⊢
   have i1:((A.length:Int)+X1.length+((W.length+(0+1):Nat):Int))=((A++(X1++(W ++ [w]))).length:Int):=by simp<;>omega
   have i2:w64 ((A.length:Int)+X1.length+((W.length+(0+1):Nat):Int) - 1)=((A++(X1++W)).length:Int):=(Zg (by omega) (by omega)).trans (by simp<;>omega)
   have d1:A++(X1++((W ++ [w])++(y::(W2++B))))=(A++(X1++(W ++ [w])))++y::(W2++B):=by simp
   have d2:A++(X1++((W ++ [w])++(y::(W2++B))))=(A++(X1++W))++w::(y::(W2++B)):=by simp
   have g1:atI (A++(X1++((W ++ [w])++(y::(W2++B))))) ((A.length:Int)+X1.length+((W.length+(0+1):Nat):Int))=some y:=by
    rw [d1]
    exact ZT _ _ _ i1
   have g2:atI (A++(X1++((W ++ [w])++(y::(W2++B))))) (w64 ((A.length:Int)+X1.length+((W.length+(0+1):Nat):Int) - 1))=some w:=by
    rw [d2]
    exact ZT _ _ _ i2
   have s1:ZaS (A++(X1++((W ++ [w])++(y::(W2++B))))) ((A.length:Int)+X1.length+((W.length+(0+1):Nat):Int)) w=(A++(X1++W))++w::(w::(W2++B)):=by
    rw [d1,ZaF _ _ _ _ i1]
    simp
   refine Za (v:=w) g2 ?_
   refine Za (v:=y) g1 ?_
   refine Za (v:=y) g1 ?_
   rw [s1]
   refine Za (v:=w) (ZT _ _ _ i2) ?_
   rw [ZaF _ _ _ _ i2]
   refine ih2 _ ⟨W,w::W2,by rw [f0];simp,by simp,?_⟩ ?_
   ·dsimp only
    rw [i2]
    simp only [List.length_append,List.length_cons,List.length_nil]
    omega
   ·dsimp only
    rw [i2]
    simp only [List.length_append,List.length_cons,List.length_nil]
    omega
  ·have hW1:W1 = []:=List.length_eq_zero_iff.1 (by omega)
   subst hW1
   rw [List.nil_append] at f0
   subst f0
   refine Zb ⟨X1++y::X3,by simp,?_,ZfA o (by rw [← e0];exact hX) e3 fun v Q e=>o.asym _ _ (e4 v Q e)⟩
   rw [e0]
   exact List.perm_middle
end
end Go.Proofs.YtjoneoobolnnbaaGreatDoor
namespace Go.Proofs.YtjoneoobolnnbaaGreatDoor
open VL
section
variable {α:Type}
theorem ZjR {β:Type} {cmp:α→α→Option Int} {lt:α→α→Bool} (hc:ZeE cmp lt) (A X Y B:List α) {lo hi mid:Nat} (hlh:lo≤hi) (h1:A.length≤lo) (h2:hi≤A.length+X.length) (h3:hi≤mid) (h4:mid≤lo+Y.length) (hs:(A++(X++(Y++B))).length≤1000000) {p:Int} (hp:p=(mid:Int)+A.length+X.length - 1) {tail:Int→Option β} {R:β→Prop}
  (k:∀ s:Nat,lo≤s→s≤hi→(lo<s→∀ x y,X[s - 1 - A.length]? = some x→Y[mid - s]? = some y→lt y x=false)→(s<hi→∀ x y,X[s - A.length]? = some x→Y[mid - 1 - s]? = some y→lt y x=true)→Tot (tail (s:Int)) R) {a0 b0:Int} (ha0:a0=(lo:Int)) (hb0:b0=(hi:Int)) :
  Tot (ZE Zaj (fun f ((st,r):Int×Int)=>
   if (decide (st<r)) then
    (Zjf .u64 (IntKind.wrap .u64 (w64 (st+r))) 1).bind fun q=>
    (atI (A++(X++(Y++B))) (w64 (p - (w64 q)))).bind fun x=>
    (atI (A++(X++(Y++B))) (w64 q)).bind fun y=>
    (cmp x y).bind fun t=>
    if (!decide (t<0)) then
     f ((w64 ((w64 q)+1)),r)
    else
    f (st,(w64 q))
   else
   tail st) (a0,b0)) R:=by
 simp only [List.length_append] at hs
 refine Zj (fun q:Int×Int=>∃ s r:Nat,q.1=s∧q.2=r∧lo≤s∧s≤r∧r≤hi∧(lo<s→∀ x y,X[s - 1 - A.length]? = some x→Y[mid - s]? = some y→lt y x=false)∧(r<hi→∀ x y,X[r - A.length]? = some x→Y[mid - 1 - r]? = some y→lt y x=true)) (fun q=>(q.2 - q.1).toNat)
  ⟨lo,hi,ha0,hb0,Nat.le_refl _,hlh,Nat.le_refl _,fun h=>absurd h (by omega),fun h=>absurd h (by omega)⟩ (by dsimp only;omega) ?_
 rintro ⟨st,r⟩ rec ⟨s,r',e1,e2,e3,e4,e5,e6,e7⟩ ih
 dsimp only at e1 e2 ⊢
 subst e1 e2
 refine Zc (fun h=>?_) fun h=>?_
 ·refine Zcz (by omega) (by omega) fun q hq=>?_
  rw [hq]
  obtain ⟨c,hcc,c1,c2⟩:∃ c:Nat,((s:Int)+(r':Int)) / 2=(c:Int)∧s≤c∧c<r':=⟨(s+r') / 2,by omega,by omega,by omega⟩
  rw [hcc]
  have ix:c - A.length<X.length:=by omega
  have iy:mid - 1 - c<Y.length:=by omega
  have gx:X[c - A.length]? = some X[c - A.length]:=List.getElem?_eq_getElem ix
  have gy:Y[mid - 1 - c]? = some Y[mid - 1 - c]:=List.getElem?_eq_getElem iy
  have g1:atI (A++(X++(Y++B))) (w64 (p - (c:Int)))=some Y[mid - 1 - c]:=by
   rw [Zg (by omega) (by omega),show p - (c:Int)=((A.length+(X.length+(mid - 1 - c)):Nat):Int) by omega,Zgd,List.getElem?_append_right (by omega),List.getElem?_append_right (by omega),List.getElem?_append_left (by omega)]
   rw [← gy]
   congr 1
   omega
  have g2:atI (A++(X++(Y++B))) (c:Int)=some X[c - A.length]:=by
   rw [Zgd,List.getElem?_append_right (by omega),List.getElem?_append_left (by omega),gx]
  refine Za (v:=Y[mid - 1 - c]) g1 ?_
  refine Za (v:=X[c - A.length]) g2 ?_
  refine Zf (hc _ _) fun t ht=>?_
  refine ZQ (fun hlt=>?_) fun hlt=>?_
  ·refine ih _ ⟨c+1,r',?_,rfl,by omega,by omega,e5,fun _ x y hx hy=>?_,e7⟩ ?_
   ·exact (Zg (by omega) (by omega)).trans (by omega)
   ·have q1:c+1 - 1 - A.length=c - A.length:=by omega
    have q2:mid - (c+1)=mid - 1 - c:=by omega
    rw [q1,gx] at hx
    rw [q2,gy] at hy
    injection hx with hx
    injection hy with hy
    rw [← hx,← hy,← ht]
    exact decide_eq_false hlt
   ·dsimp only
    rw [Zg (by omega) (by omega)]
    omega
  ·refine ih _ ⟨s,c,rfl,rfl,e3,c1,by omega,e6,fun _ x y hx hy=>?_⟩ (by dsimp only;omega)
   rw [gx] at hx
   rw [gy] at hy
   injection hx with hx
   injection hy with hy
   rw [← hx,← hy,← ht]
   exact decide_eq_true hlt
 ·obtain rfl:s=r':=by omega
  exact k s e3 e5 e6 e7
def Zmf (rec:List α→Int→Int→Int→Option (List α)) (mid e p3:Int) (d:List α):Option (List α):=
 letk (fun (b:Bool)=>
  if b then
   (rec d mid e p3).bind fun r=>
   (some r:Option (List α))
  else
  (some d:Option (List α))) fun k=>
 if (decide (mid<e)) then
  k (decide (e<p3))
 else
 k false
def Zmg (rec:List α→Int→Int→Int→Option (List α)) (p1 st mid e p3:Int) (d:List α):Option (List α):=
 letk (fun (b:Bool)=>
  letk (fun (d:List α)=>Zmf rec mid e p3 d) fun k=>
  if b then
   (rec d p1 st mid).bind fun r=>
   k r
  else
  k d) fun k=>
 if (decide (p1<st)) then
  k (decide (st<mid))
 else
 k false
def Zmh (rec:List α→Int→Int→Int→Option (List α)) (p0:List α) (p1 p2 p3 st mid e:Int):Option (List α):=
 letk (fun (b:Bool)=>
  letk (fun (d:List α)=>Zmg rec p1 st mid e p3 d) fun k=>
  if b then
   (ZtK p0 st p2 e).bind fun r=>
   k r
  else
  k p0) fun k=>
 if (decide (st<p2)) then
  k (decide (p2<e))
 else
 k false
def ZiY (cmp:α→α→Option Int):Nat→List α→Int→Int→Int→Option (List α)
 | 0,_,_,_,_=>none
 | mF+1,p0,p1,p2,p3=>
   if (decide ((w64 (p2 - p1))=1)) then
    ZlP cmp p0 p1 p2 p3
   else
   if (decide ((w64 (p3 - p2))=1)) then
    ZlR cmp p0 p1 p2 p3
   else
   (Zjf .u64 (IntKind.wrap .u64 (w64 (p1+p3))) 1).bind fun q=>
   letk (fun (s0:Int) (r0:Int)=>
    ZE Zaj (fun f ((st,r):Int×Int)=>
     if (decide (st<r)) then
      (Zjf .u64 (IntKind.wrap .u64 (w64 (st+r))) 1).bind fun q2=>
      (atI p0 (w64 ((w64 ((w64 ((w64 q)+p2)) - 1)) - (w64 q2)))).bind fun x=>
      (atI p0 (w64 q2)).bind fun y=>
      (cmp x y).bind fun t=>
      if (!decide (t<0)) then
       f ((w64 ((w64 q2)+1)),r)
      else
      f (st,(w64 q2))
     else
     Zmh (ZiY cmp mF) p0 p1 p2 p3 st (w64 q) (w64 ((w64 ((w64 q)+p2)) - st))) (s0,r0)) fun k=>
   if (decide ((w64 q)<p2)) then
    k (w64 ((w64 ((w64 q)+p2)) - p3)) (w64 q)
   else
   k p1 p2
theorem ZdL {β:Type} {p q:Prop} [Decidable p] [Decidable q] {k:Bool→Option β} {R:β→Prop} (h1:p→q→Tot (k true) R) (h2:¬ (p∧q)→Tot (k false) R):Tot (letk k fun k=>if decide p=true then k (decide q) else k false) R:=by
 show Tot (if decide p=true then k (decide q) else k false) R
 refine Zc (fun hp=>?_) fun hp=>h2 fun h=>hp h.1
 by_cases hq:q
 ·rw [decide_eq_true hq]
  exact h1 hp hq
 ·rw [decide_eq_false hq]
  exact h2 fun h=>hq h.2
theorem Zk2 {cmp:α→α→Option Int} {lt:α→α→Bool} (o:Ord lt) (hc:ZeE cmp lt):∀ (f:Nat) (A X Y B:List α),0<X.length→0<Y.length→X.length+Y.length≤2 ^ f→(A++(X++(Y++B))).length≤1000000→Srt lt X→Srt lt Y→∀ {a m b:Int},a=(A.length:Int)→m=(A.length:Int)+X.length→b=(A.length:Int)+X.length+Y.length→
  Tot (ZiY cmp (f+1) (A++(X++(Y++B))) a m b) fun r=>∃ Z,r=A++(Z++B)∧Z.Perm (X++Y)∧Srt lt Z:=by
 intro f
 induction f with
 | zero=>intro A X Y B x0 y0 hf;simp at hf;omega
 | succ f ihf=>
 intro A X Y B x0 y0 hf hs hX hY a m b ha hm hb
 have hs':=hs
 simp only [List.length_append] at hs'
 unfold ZiY
 refine Zc (fun h=>?_) fun hn1=>?_
 ·rw [Zg (by omega) (by omega)] at h
  match X,x0 with
  | [x],_=>
    refine (ZlQ o hc A Y B x hY (by simpa using hs) ha (by simpa using hm) (by simpa using hb)).mono fun r ⟨Z,h1,h2,h3⟩=>⟨Z,h1,h2,h3⟩
  | _::_::_,_=>simp only [List.length_cons] at hm;omega
 rw [Zg (by omega) (by omega)] at hn1
 refine Zc (fun h=>?_) fun hn2=>?_
 ·rw [Zg (by omega) (by omega)] at h
  match Y,y0 with
  | [y],_=>
    refine (ZlS o hc A X B y hX (by simpa using hs) ha hm).mono fun r ⟨Z,h1,h2,h3⟩=>⟨Z,h1,h2.trans (List.perm_append_singleton y X).symm,h3⟩
  | _::_::_,_=>simp only [List.length_cons] at hb;omega
 rw [Zg (by omega) (by omega)] at hn2
 refine Zcz (by omega) (by omega) fun q hq=>?_
 obtain ⟨mid,hmid⟩:∃ mid:Nat,(a+b) / 2=(mid:Int):=⟨((a+b) / 2).toNat,by omega⟩
 rw [hq,hmid]
 have hn:w64 ((mid:Int)+m)=(mid:Int)+m:=Zg (by omega) (by omega)
 rw [hn,Zg (n:=(mid:Int)+m - 1) (by omega) (by omega)]
 have hp2:2 ^ (f+1)=2 ^ f+2 ^ f:=by rw [Nat.pow_succ];omega
 have main:∀ (lo hi:Nat),lo≤hi→A.length≤lo→hi≤A.length+X.length→hi≤mid→mid≤lo+Y.length→(lo=A.length∨mid=lo+Y.length)→(hi=A.length+X.length∨hi=mid)→∀ {a0 b0:Int},a0=lo→b0=hi→_:=fun lo hi l1 l2 l3 l4 l5 l6 l7 a0 b0 ea eb=>
  ZjR (lt:=lt) (R:=fun r=>∃ Z,r=A++(Z++B)∧Z.Perm (X++Y)∧Srt lt Z) hc A X Y B l1 l2 l3 l4 l5 hs (p:=(mid:Int)+m - 1) (by omega) (tail:=fun st=>Zmh (ZiY cmp (f+1)) (A++(X++(Y++B))) a m b st (mid:Int) (w64 ((mid:Int)+m - st))) (fun s k1 k2 k3 k4=>by
   have he:w64 ((mid:Int)+m - (s:Int))=(mid:Int)+m - s:=Zg (by omega) (by omega)
   rw [he]
   obtain ⟨X1,X2,cx,lx⟩:=ZcJ X (s - A.length) (by omega)
   obtain ⟨Y1,Y2,cy,ly⟩:=ZcJ Y (mid - s) (by omega)
   have hx2:X1.length+X2.length=X.length:=by rw [cx,List.length_append]
   have hy2:Y1.length+Y2.length=Y.length:=by rw [cy,List.length_append]
   have sx:Srt lt (X1++X2):=by rw [← cx];exact hX
   have sy:Srt lt (Y1++Y2):=by rw [← cy];exact hY
   obtain ⟨sx1,sx2,_⟩:=List.pairwise_append.1 sx
   obtain ⟨sy1,sy2,_⟩:=List.pairwise_append.1 sy
   have hpart:=Zj8 o sx sy (fun P x y Q e1 e2=>by
    have z1:0<X1.length:=by rw [e1];simp
    have z2:0<Y2.length:=by rw [e2];simp
    refine k3 (by omega) x y ?_ ?_
    ·rw [cx,List.getElem?_append_left (by omega),e1]
     have:s - 1 - A.length=P.length:=by
      have:X1.length=P.length+1:=by rw [e1];simp
      omega
     rw [this]
     simp
    ·rw [cy,List.getElem?_append_right (by omega),ly,Nat.sub_self,e2]
     rfl) (fun P x y Q e1 e2=>by
    have z1:0<Y1.length:=by rw [e1];simp
    have z2:0<X2.length:=by rw [e2];simp
    refine k4 (by omega) x y ?_ ?_
    ·rw [cx,List.getElem?_append_right (by omega),lx,Nat.sub_self,e2]
     rfl
    ·rw [cy,List.getElem?_append_left (by omega),e1]
     have:mid - 1 - s=P.length:=by
      have:Y1.length=P.length+1:=by rw [e1];simp
      omega
     rw [this]
     simp)
   have d0:A++(X++(Y++B))=(A++X1)++(X2++(Y1++(Y2++B))):=by rw [cx,cy];simp
   have hC:∀ Z1:List α,Z1.Perm (X1++Y1)→Srt lt Z1→Tot (Zmf (ZiY cmp (f+1)) (mid:Int) ((mid:Int)+m - s) b (A++(Z1++(X2++(Y2++B))))) fun r=>∃ Z,r=A++(Z++B)∧Z.Perm (X++Y)∧Srt lt Z:=fun Z1 p1 q1=>by
    have hz1:Z1.length=mid - A.length:=by
     have:=p1.length_eq
     rw [List.length_append] at this
     omega
    have fin:∀ Z2:List α,Z2.Perm (X2++Y2)→Srt lt Z2→∃ Z,(A++Z1)++(Z2++B)=A++(Z++B)∧Z.Perm (X++Y)∧Srt lt Z:=fun Z2 p2 q2=>by
     refine ⟨Z1++Z2,by simp,?_,Zj9 q1 q2 p1 p2 hpart⟩
     refine (p1.append p2).trans ?_
     rw [cx,cy]
     have h1:(X1++Y1++(X2++Y2)).Perm (X1++(X2++(Y1++Y2))):=by
      rw [List.append_assoc]
      refine List.Perm.append_left X1 ?_
      rw [← List.append_assoc,← List.append_assoc]
      exact List.Perm.append_right Y2 List.perm_append_comm
     refine h1.trans ?_
     simp
    unfold Zmf
    refine ZdL (fun h1 h2=>?_) fun h=>?_
    ·refine Zaw (fun _=>?_) fun e=>by cases e
     have d1:A++(Z1++(X2++(Y2++B)))=(A++Z1)++(X2++(Y2++B)):=by simp
     rw [d1]
     refine Zf (ihf (A++Z1) X2 Y2 B (by omega) (by omega) (by omega) (by simp only [List.length_append];omega) sx2 sy2 (by rw [List.length_append];omega) (by rw [List.length_append];omega) (by rw [List.length_append];omega)) fun r ⟨Z2,h1,h2,h3⟩=>?_
     rw [h1]
     exact Zb (fin Z2 h2 h3)
    ·refine Zaw (fun e=>by cases e) fun _=>?_
     have hz:X2 = []∨Y2 = []:=by
      by_cases hx:X2.length=0
      ·exact .inl (List.length_eq_zero_iff.1 hx)
      ·exact .inr (List.length_eq_zero_iff.1 (by omega))
     have h2:Srt lt (X2++Y2):=by
      rcases hz with e | e
      ·rw [e];exact sy2
      ·rw [e,List.append_nil];exact sx2
     refine Zb ?_
     have:=fin (X2++Y2) (List.Perm.refl _) h2
     simpa using this
   have hD:Tot (Zmg (ZiY cmp (f+1)) a (s:Int) (mid:Int) ((mid:Int)+m - s) b (A++(X1++(Y1++(X2++(Y2++B)))))) fun r=>∃ Z,r=A++(Z++B)∧Z.Perm (X++Y)∧Srt lt Z:=by
    unfold Zmg
    refine ZdL (fun h1 h2=>?_) fun h=>?_
    ·refine ZJ ?_
     refine Zaw (fun _=>?_) fun e=>by cases e
     refine Zf (Q:=fun r=>∃ Z,r=A++(Z++(X2++(Y2++B)))∧Z.Perm (X1++Y1)∧Srt lt Z) (ihf A X1 Y1 (X2++(Y2++B)) (by omega) (by omega) (by omega) (by simp only [List.length_append];omega) sx1 sy1 ha (by omega) (by omega)) fun r hr=>?_
     obtain ⟨Z1,rfl,h2,h3⟩:=hr
     exact hC Z1 h2 h3
    ·refine ZJ ?_
     refine Zaw (fun e=>by cases e) fun _=>?_
     have hz:X1 = []∨Y1 = []:=by
      by_cases hx:X1.length=0
      ·exact .inl (List.length_eq_zero_iff.1 hx)
      ·exact .inr (List.length_eq_zero_iff.1 (by omega))
     have h2:Srt lt (X1++Y1):=by
      rcases hz with e | e
      ·rw [e];exact sy1
      ·rw [e,List.append_nil];exact sx1
     have:=hC (X1++Y1) (List.Perm.refl _) h2
     simpa using this
   unfold Zmh
   refine ZdL (fun h1 h2=>?_) fun h=>?_
   ·refine ZJ ?_
    refine Zaw (fun _=>?_) fun e=>by cases e
    rw [d0]
    refine Zf (Q:=fun r=>r=(A++X1)++(Y1++(X2++(Y2++B)))) (Zpr (A++X1) X2 Y1 (Y2++B) (fun e=>by rw [e] at hx2;simp at hx2;omega) (fun e=>by rw [e] at ly;simp at ly;omega) (by simp only [List.length_append];omega) (by rw [List.length_append];omega) (by rw [List.length_append];omega) (by rw [List.length_append];omega)) fun r hr=>?_
    rw [hr]
    simpa using hD
   ·refine ZJ ?_
    refine Zaw (fun e=>by cases e) fun _=>?_
    have hz:X2 = []∨Y1 = []:=by
     by_cases hx:X2.length=0
     ·exact .inl (List.length_eq_zero_iff.1 hx)
     ·exact .inr (List.length_eq_zero_iff.1 (by omega))
    rw [d0]
    rcases hz with e | e
    ·rw [e] at hD ⊢
     simpa using hD
    ·rw [e] at hD ⊢
     simpa using hD) ea eb
 refine ZJ ?_
 refine Zc (fun h=>?_) fun h=>?_
 ·exact main (mid+A.length+X.length - (A.length+X.length+Y.length)) mid (by omega) (by omega) (by omega) (by omega) (by omega) (.inr (by omega)) (.inr rfl) (by rw [Zg (by omega) (by omega)];omega) rfl
 ·exact main A.length (A.length+X.length) (by omega) (by omega) (by omega) (by omega) (by omega) (.inl rfl) (.inl rfl) ha hm
end
end Go.Proofs.YtjoneoobolnnbaaGreatDoor
namespace Go.Proofs.YtjoneoobolnnbaaGreatDoor
open VL
section
variable {α:Type}
inductive Runs (lt:α→α→Bool) (bs:Nat):List α→Prop
 | last (X:List α) (h:Srt lt X) (hl:X.length≤bs):Runs lt bs X
 | cons (X L:List α) (h:Srt lt X) (hl:X.length=bs) (hr:Runs lt bs L):Runs lt bs (X++L)
variable {lt:α→α→Bool}
theorem Zb0 {bs:Nat} {L:List α} (h:Runs lt bs L) (hl:L.length≤bs):Srt lt L:=by
 cases h with
 | last X h1 h2=>exact h1
 | cons X L h1 h2 h3=>
   rw [List.length_append] at hl
   have:L = []:=List.length_eq_zero_iff.1 (by omega)
   subst this
   rw [List.append_nil]
   exact h1
theorem ZfW {bs:Nat} {L:List α} (h:Runs lt bs L) (hl:bs<L.length):∃ X L',L=X++L'∧X.length=bs∧Srt lt X∧Runs lt bs L':=by
 cases h with
 | last X h1 h2=>omega
 | cons X L h1 h2 h3=>exact ⟨X,L,rfl,h2,h1,h3⟩
theorem ZhR {bs:Nat} (hb:0<bs) {L:List α} (h:Runs lt bs L) (hl:2 * bs≤L.length):∃ X Y L',L=X++(Y++L')∧X.length=bs∧Y.length=bs∧Srt lt X∧Srt lt Y∧Runs lt bs L':=by
 obtain ⟨X,L1,rfl,h1,h2,h3⟩:=ZfW h (by omega)
 rw [List.length_append] at hl
 cases h3 with
 | last Y k1 k2=>exact ⟨X,L1,[],by simp,h1,by omega,h2,k1,.last [] List.Pairwise.nil (Nat.zero_le _)⟩
 | cons Y L k1 k2 k3=>exact ⟨X,Y,L,rfl,h1,k2,h2,k1,k3⟩
def Zmx (cmp:α→α→Option Int) (p0:List α) (p1:Int):Option (List α):=
 ZE Zaj (fun f ((a,b,d):Int×Int×List α)=>
  if (decide (b≤p1)) then
   (Zpq cmp d a b).bind fun d=>
   f (b,(w64 (b+20)),d)
  else
  (Zpq cmp d a p1).bind fun d=>
  ZE Zaj (fun g ((bs,d):Int×List α)=>
   if (decide (bs<p1)) then
    ZE Zaj (fun h ((a,b,d):Int×Int×List α)=>
     if (decide (b≤p1)) then
      (ZiY cmp 64 d a (w64 (a+bs)) b).bind fun d=>
      h (b,(w64 (b+(w64 (2 * bs)))),d)
     else
     letk (fun (d:List α)=>
      g ((w64 (bs * 2)),d)) fun k=>
     if (decide ((w64 (a+bs))<p1)) then
      (ZiY cmp 64 d a (w64 (a+bs)) p1).bind fun d=>
      k d
     else
     k d) (0,(w64 (2 * bs)),d)
   else
   (some d:Option (List α))) (20,d)) (0,20,p0)
theorem ZpK:(1000000:Nat)≤2 ^ 63:=by decide
theorem Zmy {cmp:α→α→Option Int} (o:Ord lt) (hc:ZeE cmp lt) (l:List α) (hl:l.length≤100000) {n:Int} (hn:n=(l.length:Int)):Tot (Zmx cmp l n) fun r=>r.Perm l∧Srt lt r:=by
 unfold Zmx
 refine Zj (fun q:Int×Int×List α=>∃ P W,q.2.2=P++W∧q.1=(P.length:Int)∧q.2.1=(P.length:Int)+20∧(P++W).Perm l∧∀ V,Runs lt 20 V→Runs lt 20 (P++V)) (fun q=>(n - q.1).toNat) ⟨[],l,rfl,rfl,rfl,List.Perm.refl _,fun V h=>h⟩ (by dsimp only;omega) ?_
 rintro ⟨a,b,d⟩ rec ⟨P,W,e1,e2,e3,e4,e5⟩ ih
 dsimp only at e1 e2 e3 ⊢
 subst e1 e2 e3
 have hlen:P.length+W.length=l.length:=by
  have:=e4.length_eq
  rwa [List.length_append] at this
 refine Zc (fun h=>?_) fun h=>?_
 ·obtain ⟨X,W',c1,c2⟩:=ZcJ W 20 (by omega)
  have hw:X.length+W'.length=W.length:=by rw [c1,List.length_append]
  refine Zf (Q:=fun r=>∃ Z,r=P++(Z++W')∧Z.Perm X∧Srt lt Z) (by rw [c1];exact ZhL o hc P X W' (by simp only [List.length_append];omega) rfl (by omega)) fun r hr=>?_
  obtain ⟨Z,rfl,h2,h3⟩:=hr
  have hz:=h2.length_eq
  refine ih _ ⟨P++Z,W',by simp,by dsimp only;rw [List.length_append];omega,?_,?_,fun V hV=>?_⟩ ?_
  ·dsimp only
   rw [Zg (by omega) (by omega),List.length_append]
   omega
  ·refine List.Perm.trans ?_ e4
   rw [c1,List.append_assoc]
   exact List.Perm.append_left P (h2.append_right W')
  ·rw [List.append_assoc]
   exact e5 _ (.cons Z V h3 (by omega) hV)
  ·dsimp only
   omega
 refine Zf (Q:=fun r=>∃ Z,r=P++(Z ++ [])∧Z.Perm W∧Srt lt Z) (by
  have:=ZhL o hc P W [] (by simp only [List.length_append,List.length_nil];omega) (a:=(P.length:Int)) (b:=n) rfl (by omega)
  simpa using this) fun r hr=>?_
 obtain ⟨Z,rfl,h2,h3⟩:=hr
 have hz:=h2.length_eq
 refine Zj (fun q:Int×List α=>∃ bs:Nat,q.1=(bs:Int)∧0<bs∧bs≤200000∧Runs lt bs q.2∧q.2.Perm l) (fun q=>(200001 - q.1).toNat) ⟨20,rfl,by omega,by omega,?_,?_⟩ (by dsimp only;omega) ?_
 ·dsimp only
  rw [List.append_nil]
  exact e5 _ (.last Z h3 (by omega))
 ·dsimp only
  rw [List.append_nil]
  exact (List.Perm.append_left P h2).trans e4
 rintro ⟨bsI,d⟩ rec2 ⟨bs,f1,f2,f3,f4,f5⟩ ih2
 dsimp only at f1 f4 f5 ⊢
 subst f1
 have hd:=f5.length_eq
 refine Zc (fun hlt=>?_) fun hlt=>?_
 ·rw [Zg (n:=2 * (bs:Int)) (by omega) (by omega)]
  refine Zj (fun q:Int×Int×List α=>∃ P W,q.2.2=P++W∧q.1=(P.length:Int)∧q.2.1=(P.length:Int)+2 * bs∧(P++W).Perm l∧(∀ V,Runs lt (2 * bs) V→Runs lt (2 * bs) (P++V))∧Runs lt bs W) (fun q=>(n - q.1).toNat) ⟨[],d,rfl,rfl,by simp,f5,fun V h=>h,f4⟩ (by dsimp only;omega) ?_
  rintro ⟨a2,b2,d2⟩ rec3 ⟨P2,W2,g1,g2,g3,g4,g5,g6⟩ ih3
  dsimp only at g1 g2 g3 ⊢
  subst g1 g2 g3
  have hl2:P2.length+W2.length=l.length:=by
   have:=g4.length_eq
   rwa [List.length_append] at this
  have e1:w64 ((P2.length:Int)+bs)=(P2.length:Int)+bs:=Zg (by omega) (by omega)
  rw [e1]
  refine Zc (fun hle=>?_) fun hle=>?_
  ·obtain ⟨X,Y,L,rfl,x1,y1,x2,y2,hL⟩:=ZhR f2 g6 (by omega)
   simp only [List.length_append] at hl2
   refine Zf (Zk2 o hc 63 P2 X Y L (by omega) (by omega) (Nat.le_trans (by omega) ZpK) (by simp only [List.length_append];omega) x2 y2 rfl (by omega) (by omega)) fun r hr=>?_
   obtain ⟨Z2,rfl,k2,k3⟩:=hr
   have hz2:=k2.length_eq
   rw [List.length_append] at hz2
   refine ih3 _ ⟨P2++Z2,L,by simp,by dsimp only;rw [List.length_append];omega,?_,?_,fun V hV=>?_,hL⟩ ?_
   ·dsimp only
    rw [Zg (by omega) (by omega),List.length_append]
    omega
   ·refine List.Perm.trans ?_ g4
    rw [List.append_assoc]
    refine List.Perm.append_left P2 ?_
    have:=k2.append_right L
    simpa using this
   ·rw [List.append_assoc]
    exact g5 _ (.cons Z2 V k3 (by omega) hV)
   ·dsimp only
    omega
  refine Zx (fun k=>∀ Z2:List α,Z2.Perm W2→Srt lt Z2→Tot (k (P2++Z2)) fun r=>r.Perm l∧Srt lt r) (fun Z2 p1 q1=>?_) fun k hk=>?_
  ·have hz2:=p1.length_eq
   refine ih2 _ ⟨2 * bs,?_,by omega,by omega,g5 _ (.last Z2 q1 (by omega)),(List.Perm.append_left P2 p1).trans g4⟩ ?_
   ·dsimp only
    rw [Zg (by omega) (by omega)]
    omega
   ·dsimp only
    rw [Zg (by omega) (by omega)]
    omega
  ·refine Zc (fun hm=>?_) fun hm=>?_
   ·obtain ⟨X,Y,rfl,x1,x2,hY⟩:=ZfW g6 (by omega)
    simp only [List.length_append] at hl2
    refine Zf (Q:=fun r=>∃ Z,r=P2++(Z ++ [])∧Z.Perm (X++Y)∧Srt lt Z) (by
     have:=Zk2 o hc 63 P2 X Y [] (by omega) (by omega) (Nat.le_trans (by omega) ZpK) (by simp only [List.length_append,List.length_nil];omega) x2 (Zb0 hY (by omega)) (a:=(P2.length:Int)) (m:=(P2.length:Int)+bs) (b:=n) rfl (by omega) (by omega)
     simpa using this) fun r hr=>?_
    obtain ⟨Z2,rfl,k2,k3⟩:=hr
    rw [List.append_nil]
    exact hk Z2 k2 k3
   ·exact hk W2 (List.Perm.refl _) (Zb0 g6 (by omega))
 ·exact Zb ⟨f5,Zb0 f4 (by omega)⟩
end
end Go.Proofs.YtjoneoobolnnbaaGreatDoor
namespace Go.Proofs.YtjoneoobolnnbaaGreatDoor
open VL
instance (a b:Title):Decidable (tlt a b):=inferInstanceAs (Decidable (Title.cmp a b<0))
def Znt (a b:Title):Bool:=decide (tlt a b)
theorem ZbV {a b:Title} (h:tlt a b):¬ tlt b a:=fun k=>ZL a (ZcN h k)
theorem Zhs {a b:Title}:¬ tlt b a↔tlt a b∨a=b:=by
 constructor
 ·intro h
  by_cases e:a=b
  ·exact .inr e
  ·rcases Zie e with k | k
   ·exact .inl k
   ·exact absurd k h
 ·rintro (h | rfl)
  ·exact ZbV h
  ·exact ZL a
theorem ZeA {a b c:Title} (h:¬ tlt b a) (k:¬ tlt c b):¬ tlt c a:=by
 rw [Zhs] at *
 rcases h with h | rfl
 ·rcases k with k | rfl
  ·exact .inl (ZcN h k)
  ·exact .inl h
 ·exact k
theorem ZjB:Ord Znt:=⟨fun a b h=>decide_eq_false (ZbV (of_decide_eq_true h)),fun a b c h k=>decide_eq_false (ZeA (of_decide_eq_false h) (of_decide_eq_false k))⟩
structure KeyF where
 seq:Int
 title:Title
 number:Int
def ZjC (a b:KeyF):Prop:=a.seq<b.seq∨(a.seq=b.seq∧(tlt a.title b.title∨(a.title=b.title∧a.number<b.number)))
instance (a b:KeyF):Decidable (ZjC a b):=by unfold ZjC;infer_instance
def kLt (a b:KeyF):Bool:=decide (ZjC a b)
theorem Zht {a b:KeyF} (h:ZjC a b):¬ ZjC b a:=by
 unfold ZjC at *
 rintro (k | ⟨k1,k2⟩)
 ·rcases h with h | ⟨h1,_⟩<;>omega
 ·rcases h with h | ⟨_,h2⟩
  ·omega
  ·rcases h2 with h2 | ⟨h3,h4⟩
   ·rcases k2 with k2 | ⟨k3,_⟩
    ·exact ZbV h2 k2
    ·rw [k3] at h2
     exact ZL _ h2
   ·rcases k2 with k2 | ⟨_,k4⟩
    ·rw [h3] at k2
     exact ZL _ k2
    ·omega
theorem ZbI {a b:KeyF}:¬ ZjC b a↔a.seq<b.seq∨(a.seq=b.seq∧(tlt a.title b.title∨(a.title=b.title∧a.number≤b.number))):=by
 constructor
 ·intro h
  unfold ZjC at h
  rw [not_or,Classical.not_and_iff_not_or_not,not_or,Classical.not_and_iff_not_or_not] at h
  obtain ⟨h1,h2⟩:=h
  by_cases e:a.seq=b.seq
  ·refine .inr ⟨e,?_⟩
   rcases h2 with h2 | ⟨h2,h3⟩
   ·exact absurd e.symm h2
   ·rcases Zhs.1 h2 with k | k
    ·exact .inl k
    ·refine .inr ⟨k,?_⟩
     rcases h3 with h3 | h3
     ·exact absurd k.symm h3
     ·omega
  ·exact .inl (by omega)
 ·rintro (h | ⟨h1,h2 | ⟨h3,h4⟩⟩) k
  ·rcases k with k | ⟨k1,_⟩<;>omega
  ·rcases k with k | ⟨_,k2 | ⟨k3,_⟩⟩
   ·omega
   ·exact ZbV h2 k2
   ·rw [k3] at h2
    exact ZL _ h2
  ·rcases k with k | ⟨_,k2 | ⟨_,k4⟩⟩
   ·omega
   ·rw [h3] at k2
    exact ZL _ k2
   ·omega
theorem kLt_ord:Ord kLt:=⟨fun a b h=>decide_eq_false (Zht (of_decide_eq_true h)),fun a b c h k=>decide_eq_false (by
 have h1:=ZbI.1 (of_decide_eq_false h)
 have h2:=ZbI.1 (of_decide_eq_false k)
 refine ZbI.2 ?_
 rcases h1 with h1 | ⟨h1,h3⟩
 ·rcases h2 with h2 | ⟨h2,_⟩<;>exact .inl (by omega)
 ·rcases h2 with h2 | ⟨h2,h4⟩
  ·exact .inl (by omega)
  ·refine .inr ⟨by omega,?_⟩
   rcases h3 with h3 | ⟨h3,h5⟩
   ·rcases h4 with h4 | ⟨h4,_⟩
    ·exact .inl (ZcN h3 h4)
    ·rw [← h4]
     exact .inl h3
   ·rcases h4 with h4 | ⟨h4,h6⟩
    ·rw [h3]
     exact .inl h4
    ·exact .inr ⟨h3.trans h4,by omega⟩)⟩
theorem Ord.of {α β:Type} {lt:β→β→Bool} (o:Ord lt) (f:α→β):Ord fun a b=>lt (f a) (f b):=⟨fun a b=>o.asym _ _,fun a b c=>o.tr _ _ _⟩
theorem Zf5 {α:Type} {x:Option α} {v:α} (h:Tot x fun r=>r=v):x=some v:=by
 obtain ⟨w,h1,h2⟩:=h
 rw [h1,h2]
theorem ZdA (x y:Int):Zav x y=some (Lib.compareInt x y):=by
 have e:∀ z:Int,Za2 z=some false:=fun z=>by
  unfold Za2
  simp
 unfold Zav Lib.compareInt
 rw [e,e,Option.bind_some,Option.bind_some]
 by_cases h1:x<y
 ·simp [h1]
 ·by_cases h2:y<x
  ·simp [h1,h2]
  ·simp [h1,h2]
theorem Zwn (l:List Int) (hl:l.length≤1000):Zct l=some (orI l):=by
 refine Zf5 ?_
 unfold Zct
 refine Zj (fun i:Int=>∃ n:Nat,i=n∧n≤l.length∧orI l=orI (l.drop n)) (fun i=>((l.length:Int) - i).toNat) ⟨0,rfl,Nat.zero_le _,by simp⟩ (by first | omega | (dsimp only;omega)) ?_
 rintro i rec ⟨n,rfl,hn,he⟩ ih
 refine Zc (fun h=>?_) fun h=>?_
 ·refine Zl (by omega) h fun e _ hg=>?_
  have hlt:n<l.length:=by omega
  rw [Int.toNat_natCast,List.getElem?_eq_getElem hlt] at hg
  injection hg with hg
  have hd:l.drop n=e::l.drop (n+1):=by rw [List.drop_eq_getElem_cons hlt,hg]
  rw [hd] at he
  refine ZQ (fun hne=>Zb ?_) fun h0=>?_
  ·rw [he]
   show e=if e=0 then _ else e
   rw [if_neg hne]
  ·refine ih _ ⟨n+1,(Zg (by omega) (by omega)).trans (by omega),by omega,?_⟩ ?_
   ·rw [he]
    show (if e=0 then _ else e)=_
    rw [if_pos h0]
   ·rw [Zg (by omega) (by omega)]
    omega
 ·have hd:l.drop n = []:=List.drop_eq_nil_of_le (by omega)
  rw [hd] at he
  exact Zb he.symm
theorem ZcG (a b:Title):Zac a b=some (Title.cmp a b):=by
 unfold Zac strings_Compare
 rw [ZdA,Option.bind_some,Option.bind_some,Zwn _ (by simp),Option.bind_some]
 rfl
theorem Zfn:ZeE Zac Znt:=fun a b=>ZkW (ZcG a b) rfl
theorem Zyq (a b:Title):Title.cmp a b=0↔a=b:=by
 constructor
 ·intro h
  by_cases e:a=b
  ·exact e
  ·exfalso
   rw [ZhF] at h
   split at h
   ·cases h
   ·split at h
    ·cases h
    ·split at h
     ·cases h
     ·split at h
      ·rename_i h1 h2 h3 h4
       exact e (Zkl (by omega) (Zkk h4))
      ·cases h
 ·rintro rfl
  rw [ZhF]
  have h3:¬ Op.bytesLess a.name.toList a.name.toList=true:=fun h=>Zdp a.name h
  rw [if_neg (by omega),if_neg (by omega),if_neg h3,if_pos rfl]
def Zqh (x:Num):KeyF:=⟨x.seq,x.item.title,x.item.number⟩
def nLt (x y:Num):Bool:=kLt (Zqh x) (Zqh y)
theorem ZlU:Ord nLt:=kLt_ord.of Zqh
theorem Zhu (x y:Num):ZS x y=some (orI [Lib.compareInt x.seq y.seq,Title.cmp x.item.title y.item.title,Lib.compareInt x.item.number y.item.number]):=by
 unfold ZS
 rw [ZdA,ZdA,ZcG,Option.bind_some,Option.bind_some,Option.bind_some,Zwn _ (by simp),Option.bind_some]
theorem Zhv:ZeE ZS nLt:=fun x y=>ZkW (Zhu x y) (by
 unfold nLt kLt ZjC Zqh
 dsimp only
 apply decide_eq_decide.2
 show (if Lib.compareInt x.seq y.seq=0 then (if Title.cmp x.item.title y.item.title=0 then (if Lib.compareInt x.item.number y.item.number=0 then 0 else Lib.compareInt x.item.number y.item.number) else Title.cmp x.item.title y.item.title) else Lib.compareInt x.seq y.seq)<0↔_
 have hc:∀ a b:Int,(Lib.compareInt a b=0↔a=b)∧(Lib.compareInt a b<0↔a<b):=fun a b=>by
  unfold Lib.compareInt
  split
  ·constructor<;>constructor<;>intro h<;>omega
  ·split
   ·constructor<;>constructor<;>intro h<;>omega
   ·constructor<;>constructor<;>intro h<;>omega
 obtain ⟨s1,s2⟩:=hc x.seq y.seq
 obtain ⟨n1,n2⟩:=hc x.item.number y.item.number
 have t1:=Zyq x.item.title y.item.title
 by_cases hs:x.seq=y.seq
 ·rw [if_pos (s1.2 hs)]
  by_cases ht:x.item.title=y.item.title
  ·rw [if_pos (t1.2 ht)]
   by_cases hn:x.item.number=y.item.number
   ·rw [if_pos (n1.2 hn)]
    constructor
    ·intro h
     omega
    ·rintro (h | ⟨_,h | ⟨_,h⟩⟩)
     ·omega
     ·rw [ht] at h
      exact absurd h (ZL _)
     ·omega
   ·rw [if_neg (fun h=>hn (n1.1 h))]
    constructor
    ·intro h
     exact .inr ⟨hs,.inr ⟨ht,n2.1 h⟩⟩
    ·rintro (h | ⟨_,h | ⟨_,h⟩⟩)
     ·omega
     ·rw [ht] at h
      exact absurd h (ZL _)
     ·exact n2.2 h
  ·rw [if_neg (fun h=>ht (t1.1 h))]
   constructor
   ·intro h
    exact .inr ⟨hs,.inl h⟩
   ·rintro (h | ⟨_,h | ⟨h,_⟩⟩)
    ·omega
    ·exact h
    ·exact absurd h ht
 ·rw [if_neg (fun h=>hs (s1.1 h))]
  constructor
  ·intro h
   exact .inl (s2.1 h)
  ·rintro (h | ⟨h,_⟩)
   ·exact s2.2 h
   ·exact absurd h hs)
theorem Zpc:∀ f,Zu f=ZiY ZS f
 | 0=>rfl
 | f+1=>by
   funext p0 p1 p2 p3
   rw [Zu,Zpc f,ZiY]
   rfl
theorem Zpd (l:List Num) (n:Int):ZI l n=Zmx ZS l n:=by
 unfold ZI
 rw [Zpc]
 rfl
theorem ZjE (l:List Num) (hl:l.length≤100000):Tot (ZG l) fun r=>r.Perm l∧Srt nLt r:=by
 unfold ZG
 refine Zf (Q:=fun r=>r.Perm l∧Srt nLt r) ?_ fun r hr=>Zb hr
 rw [Zpd]
 exact Zmy ZlU Zhv l hl rfl
theorem Zpe:ZP=Zpq Zac:=rfl
theorem ZlV:(List.range 13).all (fun n=>(Zbo (IntKind.wrap .u64 (n:Int))).isSome)=true:=by kernel_rfl
theorem Zti (n:Nat) (h:n≤12):Tot (Zbo (IntKind.wrap .u64 (n:Int))) fun _=>True:=by
 have:=List.all_eq_true.1 ZlV n (List.mem_range.2 (by omega))
 obtain ⟨v,hv⟩:=Option.isSome_iff_exists.1 this
 exact ⟨v,hv,trivial⟩
theorem ZlW (l:List Title) (hl:l.length≤12):Tot (ZY l) fun r=>r.Perm l∧Srt Znt r:=by
 unfold ZY
 refine Zf (Zti l.length hl) fun k _=>?_
 refine Zf (Q:=fun r=>r.Perm l∧Srt Znt r) ?_ fun r hr=>Zb hr
 unfold Zae
 refine Zj (fun _=>True) (fun _=>0) trivial (by omega) ?_
 rintro _ rec _ _
 rw [Zg (by omega) (by omega)]
 refine Zc (fun _=>?_) fun h=>absurd (by omega) h
 refine Zf (Q:=fun r=>∃ Z,r = []++(Z ++ [])∧Z.Perm l∧Srt Znt Z) (by
  have:=ZhL ZjB Zfn [] l [] (by simp;omega) (a:=0) (b:=(l.length:Int)) rfl (by simp)
  rw [Zpe]
  simpa using this) fun r hr=>?_
 obtain ⟨Z,rfl,h2,h3⟩:=hr
 rw [List.nil_append,List.append_nil]
 exact Zb ⟨h2,h3⟩
theorem Zhw (l:List Title) (hl:l.length≤1000000) (h:l.Nodup):Zad l=some l:=by
 refine Zf5 ?_
 unfold Zad
 refine Zc (fun _=>Zb rfl) fun h2=>?_
 refine Zj (fun i:Int=>1≤i∧i≤(l.length:Int)) (fun i=>((l.length:Int) - i).toNat) ⟨by omega,by omega⟩ (by first | omega | (dsimp only;omega)) ?_
 rintro i rec ⟨h0,h1⟩ ih
 refine Zc (fun hlt=>?_) fun _=>Zb rfl
 refine Zl (by omega) hlt fun e _ he=>?_
 rw [Zg (by omega) (by omega)]
 refine Zl (by omega) (by omega) fun e2 _ he2=>?_
 refine Zc (fun heq=>?_) fun _=>?_
 ·exfalso
  subst heq
  have:=(List.getElem?_inj (i:=i.toNat) (j:=(i - 1).toNat) (by omega) h).1 (he.trans he2.symm)
  omega
 ·rw [Zg (by omega) (by omega)]
  exact ih _ ⟨by omega,by omega⟩ (by omega)
theorem ZlX (l:List Title) (hl:l.length≤12) (h:l.Nodup):Tot (Zc7 l) fun r=>r.Perm l∧Srt Znt r:=by
 unfold Zc7
 refine Zf (ZlW l hl) fun r hr=>?_
 refine Za (Zhw r (by rw [hr.1.length_eq];omega) (hr.1.nodup_iff.2 h)) (Zb hr)
theorem Zgn {s:State} {u:ByteArray} {P:Policy} {G:List ByteArray} (h:RdAt s u P G) (hl:s.pages.length≤1000000) (hh:∀ p ∈ s.pages,1≤p.history.length∧p.history.length≤1000000) (t:Title):ZaI s u t=some (s.pages.any (fun p=>decide (p.title=t))&&ZiO P G 1 t):=by
 have hR:=(ZiD _ h.pol).1
 refine ZV ?_
 unfold ZaI
 refine Za h.prog ?_
 refine Zf (Zjh s t hl hh) fun r hr=>?_
 refine ZJ ?_
 rcases hr with ⟨h1,h2⟩ | ⟨h1,h2,h3⟩
 ·refine Zs h1 (Zb ?_)
  have:s.pages.any (fun p=>decide (p.title=t))=false:=by
   rw [List.any_eq_false]
   intro p hp
   simpa using h2 p hp
  rw [this]
  rfl
 ·refine ZH h1 ?_
  refine Za h.gprog ?_
  refine Za (v:=ZiO P G 1 t) (by unfold ZbY;rw [if_pos (by omega)]) (Zb ?_)
  have:s.pages.any (fun p=>decide (p.title=t))=true:=by
   rw [List.any_eq_true]
   exact ⟨_,h2,decide_eq_true h3⟩
  rw [this]
  rfl
def clip (k:Int) (n:Nat):Int:=if (if (n:Int)<k then (n:Int) else k) > 0 then (if (n:Int)<k then (n:Int) else k) else 0
theorem Zi3 (k:Int) (n:Nat):0≤clip k n∧clip k n≤n:=by
 unfold clip
 constructor<;>split<;>(try split)<;>omega
theorem Zj3 {l:List Stored} {n:Nat} {p p':Stored} (hn:l[n]? = some p) (hf:∀ (j:Nat) q,j<n→l[j]? = some q→q.title≠p.title) (ht:p'.title=p.title) (t:Title):ZC (l.set n p') t=if t=p.title then p'.history else ZC l t:=by
 obtain ⟨hl,rfl⟩:=List.getElem?_eq_some_iff.1 hn
 have hd:∀ q ∈ l.take n,q.title≠l[n].title:=fun q hq=>by
  obtain ⟨j,hj⟩:=List.getElem?_of_mem hq
  have hjn:=(List.getElem?_eq_some_iff.1 hj).1
  rw [List.length_take] at hjn
  rw [List.getElem?_take_of_lt (by omega)] at hj
  exact hf j q (by omega) hj
 have e1:l=l.take n++l[n]::l.drop (n+1):=by rw [← List.drop_eq_getElem_cons hl,List.take_append_drop]
 unfold ZC
 rw [List.set_eq_take_append_cons_drop,if_pos hl]
 by_cases c:t=l[n].title
 ·rw [if_pos c]
  have h1:(l.take n).find? (fun p=>decide (p.title=t))=none:=List.find?_eq_none.2 fun q hq=>by
   have:=hd q hq
   rw [c]
   simpa using this
  rw [List.find?_append,h1]
  simp [ht,c]
 ·rw [if_neg c]
  conv=>rhs;rw [e1]
  rw [List.find?_append,List.find?_append,List.find?_cons,List.find?_cons]
  have h2:decide (p'.title=t)=false:=decide_eq_false (by rw [ht];exact fun e=>c e.symm)
  have h3:decide (l[n].title=t)=false:=decide_eq_false fun e=>c e.symm
  rw [h2,h3]
theorem ZoB {l:List Stored} {n:Nat} {p:Stored} (hf:∀ q ∈ l,q.title≠p.title) (t:Title):ZC (l.take n++p::l.drop n) t=if t=p.title then p.history else ZC l t:=by
 unfold ZC
 by_cases c:t=p.title
 ·rw [if_pos c]
  have h1:(l.take n).find? (fun p=>decide (p.title=t))=none:=List.find?_eq_none.2 fun q hq=>by
   have:=hf q (List.mem_of_mem_take hq)
   rw [c]
   simpa using this
  rw [List.find?_append,h1]
  simp [c]
 ·rw [if_neg c]
  conv=>rhs;rw [← List.take_append_drop n l]
  rw [List.find?_append,List.find?_append,List.find?_cons]
  have h2:decide (p.title=t)=false:=decide_eq_false fun e=>c e.symm
  rw [h2]
theorem Zmo {l:List Stored} {t:Title} (h:∀ p ∈ l,p.title≠t):ZC l t = []:=by
 unfold ZC
 rw [List.find?_eq_none.2 (fun p hp=>by simpa using h p hp)]
 rfl
theorem Zt7 (l:List Stored) (t:Title) (hl:l.length≤1000000):Tot (Zcd l t) fun r=>(r = -1∧∀ p ∈ l,p.title≠t)∨∃ (n:Nat) (p:Stored),r=n∧l[n]? = some p∧p.title=t∧∀ (j:Nat) q,j<n→l[j]? = some q→q.title≠t:=by
 unfold Zcd
 refine Zj (fun i:Int=>(0≤i∧i≤(l.length:Int))∧∀ (j:Nat) p,(j:Int)<i→l[j]? = some p→p.title≠t) (fun i=>((l.length:Int) - i).toNat) ⟨⟨by omega,by omega⟩,fun j p h=>by omega⟩ (by first | omega | (dsimp only;omega)) ?_
 rintro i rec ⟨⟨h3,h4⟩,h5⟩ ih
 refine Zc (fun hi=>?_) fun hi=>?_
 ·refine Zl h3 hi fun e he hg=>?_
  have e1:w64 (i+1)=i+1:=Zg (by omega) (by omega)
  refine Zc (fun c=>Zb (.inr ⟨i.toNat,e,by omega,hg,c,fun j q hj hq=>h5 j q (by omega) hq⟩)) fun c=>?_
  rw [e1]
  refine ih _ ⟨⟨by omega,by omega⟩,fun j p hj hp=>?_⟩ (by omega)
  by_cases hji:(j:Int)<i
  ·exact h5 j p hji hp
  ·have:j=i.toNat:=by omega
   rw [this,hg] at hp
   injection hp with hp
   rw [← hp]
   exact c
 ·refine Zb (.inl ⟨rfl,fun p hp=>?_⟩)
  obtain ⟨j,hj⟩:=List.getElem?_of_mem hp
  have:=(List.getElem?_eq_some_iff.1 hj).1
  exact h5 j p (by omega) hj
structure PutR (s:State) (c:Change) (z:Int) (s':State):Prop where
 watches:s'.watches=s.watches
 clock:s'.clock=s.clock
 hist:∀ t,ZC s'.pages t=if t=c.title then ZC s.pages t ++ [⟨(ZC s.pages t).length+1,c.user,c.note,c.text,s.clock,z⟩] else ZC s.pages t
 titles:∀ t,t ∈ s'.pages.map (·.title)↔t=c.title∨t ∈ s.pages.map (·.title)
 old:c.title ∈ s.pages.map (·.title)→s'.pages.map (·.title)=s.pages.map (·.title)
theorem Zw8 {s:State} {c:Change} {z:Int} (hl:s.pages.length≤1000000):Par (Zej s c z) fun r=>(r.2=0→PutR s c z r.1)∧(r.2≠0→r.2=8):=by
 unfold Zej
 refine ZaW (ZbS (Zt7 s.pages c.title hl)) fun r hr=>?_
 refine Zt (fun h0=>?_) fun h0=>?_
 ·rcases hr with ⟨rfl,hno⟩ | ⟨n,p,rfl,_⟩
  rotate_left
  ·exact absurd h0 (by omega)
  refine Zt (fun _=>Zq ⟨fun h=>(by cases h),fun _=>rfl⟩) fun _=>?_
  refine ZaW (ZbS (Zdf s.pages _ hl)) fun r hr=>?_
  obtain ⟨n,_,rfl,_,_⟩:=hr
  refine Zq ⟨fun _=>⟨rfl,rfl,fun t=>?_,fun t=>?_,fun hin=>?_⟩,fun h=>absurd rfl h⟩
  ·dsimp only
   rw [ZoB (p:=(⟨c.title,_⟩:Stored)) hno t]
   dsimp only
   by_cases e:t=c.title
   ·rw [if_pos e,if_pos e,e,Zmo hno]
    rfl
   ·rw [if_neg e,if_neg e]
  ·dsimp only
   rw [List.map_append,List.map_cons,List.mem_append,List.mem_cons]
   conv=>rhs;rw [← List.take_append_drop n s.pages,List.map_append,List.mem_append]
   constructor
   ·rintro (h | h | h)
    ·exact .inr (.inl h)
    ·exact .inl h
    ·exact .inr (.inr h)
   ·rintro (h | h | h)
    ·exact .inr (.inl h)
    ·exact .inl h
    ·exact .inr (.inr h)
  ·obtain ⟨p,hp,e⟩:=List.mem_map.1 hin
   exact absurd e (hno p hp)
 ·rcases hr with ⟨rfl,_⟩ | ⟨n,p,rfl,hn,ht,hf⟩
  ·exact absurd (by decide) h0
  refine Zgy fun e he=>?_
  have e0:e=p:=by
   rw [Int.toNat_natCast,hn] at he
   injection he with he
   exact he.symm
  subst e0
  refine Zt (fun _=>Zq ⟨fun h=>(by cases h),fun _=>rfl⟩) fun hlen=>?_
  refine Zcm ?_
  refine Zcm ?_
  refine Zcm ?_
  refine Zgy fun e' he'=>?_
  rw [Zib] at he' ⊢
  have e1:e'=e:=by
   rw [Int.toNat_natCast,hn] at he'
   injection he' with he'
   exact he'.symm
  subst e1
  have hf':∀ (j:Nat) q,j<n→s.pages[j]? = some q→q.title≠e'.title:=fun j q hj hq=>by rw [ht];exact hf j q hj hq
  have hset:∀ p':Stored,ZaS s.pages (n:Int) p'=s.pages.set n p':=fun p'=>rfl
  have hold:∀ p':Stored,p'.title=e'.title→(s.pages.set n p').map (·.title)=s.pages.map (·.title):=fun p' hp'=>by
   rw [List.map_set]
   refine List.ext_getElem? fun i=>?_
   rw [List.getElem?_set]
   split
   ·rename_i hi
    subst hi
    obtain ⟨hln,hee⟩:=List.getElem?_eq_some_iff.1 hn
    rw [if_pos (by rw [List.length_map];exact hln),List.getElem?_map,hn,hp']
    rfl
   ·rfl
  refine Zq ⟨fun _=>⟨rfl,rfl,fun t=>?_,fun t=>?_,fun hin=>?_⟩,fun h=>absurd rfl h⟩
  ·dsimp only
   rw [hset]
   refine (Zj3 hn hf' ?_ t).trans ?_
   ·rfl
   dsimp only
   rw [ht]
   by_cases e:t=c.title
   ·have hh:ZC s.pages t=e'.history:=by
     have:=Zj3 hn hf' (p':=e') rfl t
     rw [if_pos (by rw [ht];exact e)] at this
     rw [← this]
     congr 1
     refine (List.ext_getElem? fun i=>?_)
     rw [List.getElem?_set]
     split
     ·rename_i hi
      subst hi
      rw [if_pos (List.getElem?_eq_some_iff.1 hn).1,hn]
     ·rfl
    rw [if_pos e,if_pos e,hh,Zg (by omega) (by omega)]
    rfl
   ·rw [if_neg e,if_neg e]
  ·dsimp only
   rw [hset]
   have hT:∀ x:List Revision,(s.pages.set n ⟨e'.title,x⟩).map (·.title)=s.pages.map (·.title):=fun x=>hold ⟨e'.title,x⟩ rfl
   rw [hT]
   constructor
   ·exact .inr
   ·rintro (h | h)
    ·rw [h,← ht]
     exact List.mem_map.2 ⟨e',List.mem_of_getElem? hn,rfl⟩
    ·exact h
  ·dsimp only
   rw [hset]
   exact hold ⟨e'.title,_⟩ rfl
structure WatchR (s:State) (c:Change) (s':State):Prop where
 pages:s'.pages=s.pages
 clock:s'.clock=s.clock
 ex:∃ n,n≤s.watches.length∧s'.watches=s.watches.take n++⟨c.user,c.title⟩::s.watches.drop n
theorem Zxe {s:State} {c:Change} (hl:s.watches.length≤1000000) (hk:c.kind=7):Par (ZcK s c) fun r=>(r.2=0→WatchR s c r.1)∧(r.2≠0→r.2=5∨r.2=8):=by
 unfold ZcK
 refine Zh6 (fun a:Int×List Watch=>∃ n:Nat,a.1=n∧n≤s.watches.length∧a.2=s.watches.take n) (fun a rec ha ih=>?_) _ _ ⟨0,rfl,Nat.zero_le _,rfl⟩
 obtain ⟨i,out⟩:=a
 obtain ⟨n,h1,h2,h3⟩:=ha
 dsimp only at h1 h3 ⊢
 subst h1
 refine Zbz (fun k=>(n<s.watches.length→Par (k true) fun r:State×Int=>(r.2=0→WatchR s c r.1)∧(r.2≠0→r.2=5∨r.2=8))∧Par (k false) fun r:State×Int=>(r.2=0→WatchR s c r.1)∧(r.2≠0→r.2=5∨r.2=8)) ⟨fun hlt=>?_,?_⟩ fun k hk=>?_
 ·refine ZbU (fun _=>?_) fun e=>by cases e
  refine Zgy fun e he=>Zcm (ih _ ⟨n+1,?_,hlt,?_⟩)
  ·dsimp only
   rw [Zg (by omega) (by omega)]
   rfl
  ·dsimp only
   rw [Int.toNat_natCast] at he
   rw [h3,List.take_add_one,he]
   rfl
 ·refine ZbU (fun e=>by cases e) fun _=>?_
  refine Zbz (fun k=>∀ b,Par (k b) fun r:State×Int=>(r.2=0→WatchR s c r.1)∧(r.2≠0→r.2=5∨r.2=8)) (fun b=>?_) fun k hk=>?_
  ·refine Zt (fun e=>absurd e (by omega)) fun _=>?_
   refine ZbU (fun _=>Zq ⟨fun h=>(by cases h),fun _=>.inl rfl⟩) fun _=>?_
   refine Zt (fun _=>Zq ⟨fun h=>(by cases h),fun _=>.inr rfl⟩) fun _=>?_
   refine Zcm (Zz fun x hx=>?_)
   rw [ZfE _ rfl h2] at hx
   injection hx with hx
   subst hx
   refine Zcm (Zq ⟨fun _=>⟨rfl,rfl,n,h2,?_⟩,fun h=>absurd rfl h⟩)
   dsimp only
   rw [h3,List.append_assoc]
   rfl
  ·exact Zt (fun _=>Zz fun _ _=>hk _) fun _=>hk _
 ·refine Zt (fun h=>Zz fun _ _=>Zz fun b _=>?_) fun _=>hk.2
  cases b
  ·exact hk.2
  ·exact hk.1 (by omega)
def Zd4 (t:Title) (r:Revision):Num:=⟨⟨t,r.number,r.user,r.note,r.minute⟩,r.seq⟩
def ZdQ (l:List Stored) (f:Title→Bool) (t:Title):List Num:=if f t=true then (ZC l t).map (Zd4 t) else []
def ents (l:List Stored) (f:Title→Bool) (T:List Title):List Num:=T.flatMap (ZdQ l f)
theorem Zcs {l:List Stored} (h:l.Pairwise fun a b=>tlt a.title b.title) {p:Stored} (hp:p ∈ l):ZC l p.title=p.history:=by
 unfold ZC
 cases hf:l.find? (fun q=>decide (q.title=p.title)) with
 | none=>
   have:=List.find?_eq_none.1 hf p hp
   simp at this
 | some q=>
   have h1:=List.mem_of_find?_eq_some hf
   have h2:=List.find?_some hf
   rw [Zps h h1 hp (of_decide_eq_true h2)]
   rfl
theorem Zje {s:State} {u:ByteArray} {P:Policy} {G:List ByteArray} (h:RdAt s u P G) (hs:s.pages.Pairwise fun a b=>tlt a.title b.title) (hl:s.pages.length≤200) (hh:∀ p ∈ s.pages,1≤p.history.length∧p.history.length≤40) (T:List Title) (hT:T.length≤12) :
  Tot (Zcq s u T) fun r=>∃ L:List Num,L.Perm (ents s.pages (rdB s.pages P G) T)∧Srt nLt L∧L.length≤480∧r=L.map (·.item):=by
 have hh':∀ p ∈ s.pages,1≤p.history.length∧p.history.length≤1000000:=fun p hp=>by
  have:=hh p hp
  omega
 unfold Zcq
 refine Zj (fun a:Int×List Num=>∃ n:Nat,a.1=n∧n≤T.length∧a.2.length≤40 * n∧a.2=ents s.pages (rdB s.pages P G) (T.take n)) (fun a=>((T.length:Int) - a.1).toNat) ⟨0,rfl,Nat.zero_le _,by simp,rfl⟩ (by first | omega | (dsimp only;omega)) ?_
 rintro ⟨i,l⟩ rec ⟨n,e1,hn,hlen,hents⟩ ih
 dsimp only at e1 hlen hents ⊢
 subst e1
 refine Zc (fun hlt=>?_) fun hlt=>?_
 ·have hlt':n<T.length:=by omega
  have htk:T.take (n+1)=T.take n ++ [T[n]]:=List.take_succ_eq_append_getElem hlt'
  refine Zx (fun k=>∀ l':List Num,l'.length≤40 * (n+1)→l'=l++ZdQ s.pages (rdB s.pages P G) T[n]→Tot (k l') fun r=>∃ L:List Num,L.Perm (ents s.pages (rdB s.pages P G) T)∧Srt nLt L∧L.length≤480∧r=L.map (·.item))
   (fun l' hl' hl2=>ih _ ⟨n+1,(Zg (by omega) (by omega)).trans (by omega),by omega,hl',by
    dsimp only
    rw [hl2,hents,htk]
    unfold ents
    rw [List.flatMap_append]
    simp⟩ (by dsimp only;rw [Zg (by omega) (by omega)];omega)) fun k hk=>?_
  refine Zl (by omega) hlt fun t _ htn=>?_
  rw [Int.toNat_natCast,List.getElem?_eq_getElem hlt'] at htn
  injection htn with htn
  rw [htn] at hk
  refine Za (Zgn h (by omega) hh' t) ?_
  change Tot (if (!rdB s.pages P G t)=true then _ else _) _
  refine Zaw (fun hb=>hk _ (by omega) ?_) fun hb=>?_
  ·unfold ZdQ
   rw [if_neg (by simpa using hb),List.append_nil]
  have hb':rdB s.pages P G t=true:=by simpa using hb
  refine Zf (Zjh s t (by omega) hh') fun r hr=>?_
  have hrl:r.1.history.length≤40∧ZC s.pages t=r.1.history:=by
   rcases hr with ⟨_,h2⟩ | ⟨_,h2,h3⟩
   ·exfalso
    have:s.pages.any (fun p=>decide (p.title=t))=false:=by
     rw [List.any_eq_false]
     intro p hp
     simpa using h2 p hp
    unfold rdB at hb'
    rw [this] at hb'
    cases hb'
   ·refine ⟨(hh _ h2).2,?_⟩
    rw [← h3]
    exact Zcs hs h2
  obtain ⟨hrl,hre⟩:=hrl
  refine Zj (fun a:Int×List Num=>∃ m:Nat,a.1=m∧m≤r.1.history.length∧a.2.length≤40 * n+m∧a.2=l++((r.1.history.take m).map (Zd4 t))) (fun a=>((r.1.history.length:Int) - a.1).toNat) ⟨0,rfl,Nat.zero_le _,by dsimp only;omega,by simp⟩ (by first | omega | (dsimp only;omega)) ?_
  rintro ⟨j,l2⟩ rec2 ⟨m,e2,hm,hlen2,hl2⟩ ih2
  dsimp only at e2 hlen2 hl2 ⊢
  subst e2
  refine Zc (fun hlt2=>?_) fun hlt2=>hk _ (by omega) ?_
  ·have hm':m<r.1.history.length:=by omega
   refine Zl (by omega) hlt2 fun e _ he=>?_
   rw [Int.toNat_natCast] at he
   refine ZK 1000 (by simp;omega) (by decide) (by decide) ?_
   refine ih2 _ ⟨m+1,(Zg (by omega) (by omega)).trans (by omega),by omega,by simp;omega,?_⟩ (by dsimp only;rw [Zg (by omega) (by omega)];omega)
   dsimp only
   rw [hl2,List.take_add_one,he]
   simp [Zd4]
  ·have:m=r.1.history.length:=by omega
   subst this
   rw [hl2,List.take_length]
   unfold ZdQ
   rw [if_pos hb',hre]
 ·have hn':n=T.length:=by omega
  subst hn'
  rw [List.take_length] at hents
  refine Zf (ZjE l (by omega)) fun r hr=>?_
  have hr2:=hr.1.length_eq
  refine Zj (fun a:Int×List Item=>∃ m:Nat,a.1=m∧m≤r.length∧a.2=(r.take m).map (·.item)) (fun a=>((r.length:Int) - a.1).toNat) ⟨0,rfl,Nat.zero_le _,by simp⟩ (by first | omega | (dsimp only;omega)) ?_
  rintro ⟨j,l2⟩ rec2 ⟨m,e2,hm,hl2⟩ ih2
  dsimp only at e2 hl2 ⊢
  subst e2
  have hlen2:l2.length=m:=by rw [hl2];simp;omega
  refine Zc (fun hlt2=>?_) fun hlt2=>Zb ⟨r,by rw [← hents];exact hr.1,hr.2,by omega,?_⟩
  ·refine Zl (by omega) hlt2 fun e _ he=>?_
   rw [Int.toNat_natCast] at he
   refine ZK 1000 (by simp;omega) (by decide) (by decide) ?_
   refine ih2 _ ⟨m+1,(Zg (by omega) (by omega)).trans (by omega),by omega,?_⟩ (by dsimp only;rw [Zg (by omega) (by omega)];omega)
   dsimp only
   rw [hl2,List.take_add_one,he]
   simp
  ·have:m=r.length:=by omega
   subst this
   rw [hl2,List.take_length]
theorem Zj4 {α:Type} (l:List α) (i:Int) (x:α) (k:Nat) (h0:0≤i) (h1:i<(l.length:Int)):(ZaS l i x)[k]? = if k=i.toNat then some x else l[k]?:=by
 unfold ZaS
 rw [List.getElem?_set]
 by_cases h:i.toNat=k
 ·rw [if_pos h,if_pos (by omega),if_pos h.symm]
 ·rw [if_neg h,if_neg (fun e=>h e.symm)]
theorem Zmt (l:List Item) (hl:l.length≤1000000):ZaK l=some l.reverse:=by
 refine Zf5 ?_
 unfold ZaK
 rw [Zg (by omega) (by omega)]
 refine Zj (fun a:Int×Int×List Item=>(0≤a.1∧a.2.1<(l.length:Int)∧a.2.1=(l.length:Int) - 1 - a.1∧a.1≤a.2.1+2∧a.2.2.length=l.length)∧∀ k:Nat,k<l.length→a.2.2[k]? = if (k:Int)<a.1∨a.2.1<(k:Int) then l[l.length - 1 - k]? else l[k]?) (fun a=>((l.length:Int) - a.1).toNat)
  ⟨⟨Int.le_refl _,by dsimp only;omega,by dsimp only;omega,by dsimp only;omega,rfl⟩,fun k hk=>by dsimp only;rw [if_neg (by omega)]⟩ (by first | omega | (dsimp only;omega)) ?_
 rintro ⟨i,j,d⟩ rec ⟨⟨h0,h1,h2,h4,h3⟩,h5⟩ ih
 dsimp only at h0 h1 h2 h3 h4 h5 ⊢
 refine Zc (fun hlt=>?_) fun hge=>Zb ?_
 ·refine Zl (by omega) (by omega) fun x _ hx=>?_
  refine Zl (by omega) (by omega) fun y _ hy=>?_
  refine Zl (by omega) (by omega) fun _ _ _=>?_
  refine Zl (by omega) (by rw [Za8];omega) fun _ _ _=>?_
  rw [Zg (n:=i+1) (by omega) (by omega),Zg (n:=j - 1) (by omega) (by omega)]
  refine ih _ ⟨⟨by dsimp only;omega,by dsimp only;omega,by dsimp only;omega,by dsimp only;omega,by dsimp only;rw [Za8,Za8];exact h3⟩,fun k hk=>?_⟩ (by first | omega | (dsimp only;omega))
  dsimp only
  rw [Zj4 _ _ _ _ (by omega) (by rw [Za8];omega),Zj4 _ _ _ _ (by omega) (by omega)]
  have hi:=h5 i.toNat (by omega)
  have hj:=h5 j.toNat (by omega)
  rw [if_neg (by omega)] at hi hj
  rw [hx] at hj
  rw [hy] at hi
  by_cases c1:k=j.toNat
  ·rw [if_pos c1,if_pos (by omega),show l.length - 1 - k=i.toNat by omega,← hi]
  ·rw [if_neg c1]
   by_cases c2:k=i.toNat
   ·rw [if_pos c2,if_pos (by omega),show l.length - 1 - k=j.toNat by omega,← hj]
   ·rw [if_neg c2,h5 k hk]
    by_cases c3:(k:Int)<i∨j<(k:Int)
    ·rw [if_pos c3,if_pos (by omega)]
    ·rw [if_neg c3,if_neg (by omega)]
 ·refine List.ext_getElem? fun k=>?_
  by_cases hk:k<l.length
  ·rw [h5 k hk,List.getElem?_reverse hk]
   by_cases c:(k:Int)<i∨j<(k:Int)
   ·rw [if_pos c]
   ·rw [if_neg c,show l.length - 1 - k=k by omega]
  ·rw [List.getElem?_eq_none (by omega),List.getElem?_eq_none (by rw [List.length_reverse];omega)]
def ZB (l:List Watch) (u:ByteArray):List Title:=(l.filter fun w=>decide (w.user=u)).map (·.title)
theorem Zdx (s:State) (u:ByteArray) (hl:s.watches.length≤1000):ZaE s u=some (ZB s.watches u):=by
 refine ZV ?_
 unfold ZaE
 refine Zj (fun a:Int×List Title=>∃ n:Nat,a.1=n∧n≤s.watches.length∧a.2=ZB (s.watches.take n) u) (fun a=>((s.watches.length:Int) - a.1).toNat) ⟨0,rfl,Nat.zero_le _,rfl⟩ (by first | omega | (dsimp only;omega)) ?_
 rintro ⟨i,l⟩ rec ⟨n,e1,hn,hl2⟩ ih
 dsimp only at e1 hl2 ⊢
 subst e1
 have hll:l.length≤n:=by
  rw [hl2]
  unfold ZB
  rw [List.length_map]
  exact Nat.le_trans (List.length_filter_le ..) (by rw [List.length_take];omega)
 refine Zc (fun hlt=>?_) fun hlt=>?_
 ·refine Zx (fun k=>∀ l':List Title,l'=ZB (s.watches.take (n+1)) u→Tot (k l') fun r=>r=ZB s.watches u) (fun l' hl'=>ih _ ⟨n+1,(Zg (by omega) (by omega)).trans (by omega),by omega,hl'⟩ (by dsimp only;rw [Zg (by omega) (by omega)];omega)) fun k hk=>?_
  refine Zl (by omega) hlt fun e _ he=>?_
  rw [Int.toNat_natCast] at he
  have htk:ZB (s.watches.take (n+1)) u=ZB (s.watches.take n) u++ZB [e] u:=by
   unfold ZB
   rw [List.take_add_one,he,List.filter_append,List.map_append]
   rfl
  refine Zc (fun hu=>?_) fun hu=>hk _ ?_
  ·refine ZK 2000 (by simp;omega) (by decide) (by decide) ?_
   refine hk _ ?_
   rw [htk,hl2]
   unfold ZB
   simp [hu]
  ·rw [htk,hl2]
   unfold ZB
   simp [hu]
 ·refine Zb ?_
  have:n=s.watches.length:=by omega
  subst this
  rw [hl2,List.take_length]
theorem Zb8 {l:List Watch} (h:l.Pairwise wlt) (u:ByteArray):(ZB l u).Pairwise tlt:=by
 unfold ZB
 rw [List.pairwise_map]
 refine List.Pairwise.imp_of_mem (R:=wlt) (fun {a b} ha hb hab=>?_) (h.filter _)
 have h1:=of_decide_eq_true (List.mem_filter.1 ha).2
 have h2:=of_decide_eq_true (List.mem_filter.1 hb).2
 rcases hab with c | ⟨_,c⟩
 ·rw [h1,h2] at c
  exact absurd c (Zdp u)
 ·exact c
theorem Zb6 {l:List Watch} (h:l.Pairwise wlt) (hk:∀ w ∈ l,w.title ∈ ZaJ) (u:ByteArray):(ZB l u).length≤8:=
 ZhW (m:=ZaJ) (Zbg (Zb8 h u)) fun x hx=>by
  obtain ⟨w,hw,rfl⟩:=List.mem_map.1 hx
  exact hk w (List.mem_filter.1 hw).1
theorem Zb7 {α β:Type} {l m:List α} (f:α→List β) (h:l.Perm m):(l.flatMap f).Perm (m.flatMap f):=by
 induction h with
 | nil=>exact .refl _
 | cons x _ ih=>
   rw [List.flatMap_cons,List.flatMap_cons]
   exact ih.append_left _
 | swap x y l=>
   rw [List.flatMap_cons,List.flatMap_cons,List.flatMap_cons,List.flatMap_cons,← List.append_assoc,← List.append_assoc]
   exact List.perm_append_comm.append_right _
 | trans _ _ ih1 ih2=>exact ih1.trans ih2
theorem Zd8 (l:List Item) (h:l.length≤1000000):Zap l=some l:=by
 unfold Zap
 rw [if_pos (by omega)]
theorem ZlT {s:State} {m:Int} {u:ByteArray} {P:Policy} {G:List ByteArray} (hs:Zhr s m) (hR:RdAt s u P G):∃ L:List Num,L.Perm (ents s.pages (rdB s.pages P G) (ZB s.watches u))∧Srt nLt L∧L.length≤480∧∀ k:Int,ZaN s u k=some ((L.map (·.item)).drop (clip k L.length).toNat):=by
 obtain ⟨t0,ht,hv⟩:=hs.1.1.ex
 have hp:=hs.1.plen
 have hh:∀ p ∈ s.pages,1≤p.history.length∧p.history.length≤40:=fun p hp=>⟨(hv.pages p hp).hist.len1,(hv.pages p hp).hist.len2⟩
 have hw:=Zb6 hv.wsort hs.2 u
 obtain ⟨T,hT1,hT2⟩:=ZlX (ZB s.watches u) (by omega) (Zbg (Zb8 hv.wsort u))
 have hT3:=hT2.1.length_eq
 obtain ⟨r,hr,L,hL1,hL2,hL3,rfl⟩:=Zje hR hv.sorted (by omega) hh T (by omega)
 refine ⟨L,hL1.trans (Zb7 _ hT2.1),hL2,hL3,fun k=>?_⟩
 refine ZV ?_
 unfold ZaN
 refine Za (Zdx s u (by have:=hv.wlen;omega)) ?_
 refine Za hT1 ?_
 refine Za hr ?_
 obtain ⟨c1,c2⟩:=Zi3 k L.length
 have e1:((L.map (·.item)).length:Int)=(L.length:Int):=by rw [List.length_map]
 rw [e1]
 refine Zfc c1 c2 (by rw [List.length_map];exact Int.le_refl _) fun x hx _=>?_
 have hx2:x=(L.map (·.item)).drop (clip k L.length).toNat:=by
  rw [hx]
  apply List.take_of_length_le
  rw [List.length_drop,List.length_map]
  show L.length - (clip k L.length).toNat≤(L.length:Int).toNat - (clip k L.length).toNat
  omega
 exact Za (Zd8 x (by rw [hx2,List.length_drop,List.length_map];omega)) (Zb hx2)
theorem ZlI {s:State} {m:Int} {u:ByteArray} {P:Policy} {G:List ByteArray} (hs:Zhr s m) (hR:RdAt s u P G):∃ L:List Num,L.Perm (ents s.pages (rdB s.pages P G) (s.pages.map (·.title)))∧Srt nLt L∧L.length≤480∧∀ k:Int,ZbB s u k=some ((L.map (·.item)).reverse.take (clip k L.length).toNat):=by
 obtain ⟨t0,ht,hv⟩:=hs.1.1.ex
 have hp:=hs.1.plen
 have hh:∀ p ∈ s.pages,1≤p.history.length∧p.history.length≤40:=fun p hp=>⟨(hv.pages p hp).hist.len1,(hv.pages p hp).hist.len2⟩
 obtain ⟨T,hT1,hT2⟩:=ZlX (s.pages.map (·.title)) (by rw [List.length_map];omega) (Zbg hs.1.titles)
 have hT3:=hT2.1.length_eq
 rw [List.length_map] at hT3
 obtain ⟨r,hr,L,hL1,hL2,hL3,rfl⟩:=Zje hR hv.sorted (by omega) hh T (by omega)
 refine ⟨L,hL1.trans (Zb7 _ hT2.1),hL2,hL3,fun k=>?_⟩
 refine ZV ?_
 unfold ZbB
 refine Zj (fun a:Int×List Title=>∃ n:Nat,a.1=n∧n≤s.pages.length∧a.2=(s.pages.take n).map (·.title)) (fun a=>((s.pages.length:Int) - a.1).toNat) ⟨0,rfl,Nat.zero_le _,by simp⟩ (by first | omega | (dsimp only;omega)) ?_
 rintro ⟨i,l⟩ rec ⟨n,e1,hn,e2⟩ ih
 dsimp only at e1 e2 ⊢
 subst e1 e2
 refine Zc (fun hlt=>?_) fun hlt=>?_
 ·refine Zl (by omega) hlt fun p _ hg=>?_
  rw [Int.toNat_natCast] at hg
  refine ZK 1000 (by simp;omega) (by decide) (by decide) ?_
  refine ih _ ⟨n+1,(Zg (by omega) (by omega)).trans (by omega),by omega,?_⟩ (by dsimp only;rw [Zg (by omega) (by omega)];omega)
  dsimp only
  rw [List.take_add_one,hg]
  simp
 ·have:n=s.pages.length:=by omega
  subst this
  rw [List.take_length]
  refine Za hT1 ?_
  refine Za hr ?_
  refine Za (Zmt _ (by rw [List.length_map];omega)) ?_
  obtain ⟨c1,c2⟩:=Zi3 k L.length
  have e1:((L.map (·.item)).reverse.length:Int)=(L.length:Int):=by rw [List.length_reverse,List.length_map]
  rw [e1]
  refine Zfc (Int.le_refl _) c1 (by rw [e1];exact c2) fun x hx _=>?_
  have hx2:x=(L.map (·.item)).reverse.take (clip k L.length).toNat:=by
   rw [hx]
   show List.take ((clip k L.length).toNat - (0:Int).toNat) (List.drop (0:Int).toNat _)=_
   rw [Int.toNat_zero,List.drop_zero,Nat.sub_zero]
  exact Za (Zd8 x (by rw [hx2,List.length_take];omega)) (Zb hx2)
theorem Zls {t0:ByteArray} {q:Int} {s:State} (hv:VS t0 q s) {f:Title→Bool} {T:List Title}:∀ x ∈ ents s.pages f T,∀ y ∈ ents s.pages f T,nLt x y=false→nLt y x=false→x=y:=by
 have mem:∀ x ∈ ents s.pages f T,∃ p ∈ s.pages,∃ (i:Nat) (r:Revision),p.history[i]? = some r∧x=Zd4 p.title r∧r.number=(i:Int)+1:=fun x hx=>by
  obtain ⟨t,_,hx⟩:=List.mem_flatMap.1 hx
  unfold ZdQ at hx
  split at hx
  ·obtain ⟨r,hr,rfl⟩:=List.mem_map.1 hx
   cases hf:s.pages.find? (fun p=>decide (p.title=t)) with
   | none=>
     unfold ZC at hr
     rw [hf] at hr
     cases hr
   | some p=>
     have h1:=List.mem_of_find?_eq_some hf
     have h2:=of_decide_eq_true (p:=p.title=t) (List.find?_some (p:=fun p:Stored=>decide (p.title=t)) hf)
     subst h2
     rw [Zcs hv.sorted h1] at hr
     obtain ⟨i,hi⟩:=List.getElem?_of_mem hr
     exact ⟨p,h1,i,r,hi,rfl,(hv.pages p h1).hist.num i r hi⟩
  ·cases hx
 intro x hx y hy h1 h2
 obtain ⟨p,hp,i,r,hi,rfl,ni⟩:=mem x hx
 obtain ⟨p',hp',i',r',hi',rfl,ni'⟩:=mem y hy
 have k1:=ZbI.1 (of_decide_eq_false h1)
 have k2:=ZbI.1 (of_decide_eq_false h2)
 unfold Zqh Zd4 at k1 k2
 dsimp only at k1 k2
 have es:r.seq=r'.seq:=by
  rcases k1 with k | ⟨k,_⟩<;>rcases k2 with j | ⟨j,_⟩<;>omega
 have k1':=(k1.resolve_left (by omega)).2
 have k2':=(k2.resolve_left (by omega)).2
 have et:p.title=p'.title:=by
  rcases k1' with k | ⟨k,_⟩
  ·rcases k2' with j | ⟨j,_⟩
   ·exact absurd j (ZbV k)
   ·exact j
  ·exact k.symm
 have en:r.number=r'.number:=by
  rcases k1' with k | ⟨_,k⟩
  ·rw [et] at k
   exact absurd k (ZL _)
  ·rcases k2' with j | ⟨_,j⟩
   ·rw [et] at j
    exact absurd j (ZL _)
   ·omega
 obtain rfl:=Zps hv.sorted hp hp' et
 obtain rfl:i=i':=by omega
 rw [hi] at hi'
 injection hi' with hi'
 rw [hi']
theorem ZnZ {α:Type} {lt:α→α→Bool} {l m:List α} (hne:∀ a ∈ l,∀ b ∈ l,lt a b=false→lt b a=false→a=b) (p:l.Perm m) (h:Srt lt l) (k:Srt lt m):l=m:=
 p.eq_of_pairwise (le:=fun a b=>lt b a=false) (fun a b ha hb h k=>(hne b (p.mem_iff.2 hb) a ha h k).symm) h k
theorem Zhz {w:Int} (h0:0≤w) (h1:w<4) {R:Bool→Prop} {f:ByteArray→Option Bool} (k:∀ u ∈ usersG,Tot (f u) R):Tot ((atI usersG w).bind f) R:=
 Zl h0 h1 fun u hu _=>k u hu
theorem ZhA (l m:List Int) (hl:l.length≤9223372036854775807) (hm:m.length≤9223372036854775807):Tot (Zau l m) fun s=>Zhr s 30:=by
 unfold Zau
 refine Zf (Zo5 madeW l hl) fun s hs=>?_
 refine Zf (ZpJ m hm) fun x hx=>?_
 refine Zf (ZcB x 7 hx (by omega) (by omega)) fun q hq=>?_
 refine Zj (fun a:Int×Int×Int×List Stored×List Stored×List Proposal×Int×List Watch×List Last×List Int×Int×Int=>(0≤a.1∧a.1≤7)∧(⟨a.2.2.2.2.2.2.2.2.2.1,a.2.2.2.2.2.2.2.2.2.2.1,a.2.2.2.2.2.2.2.2.2.2.2⟩:SrcF).ok∧Zhr ⟨a.2.1,a.2.2.1,a.2.2.2.1,a.2.2.2.2.1,a.2.2.2.2.2.1,a.2.2.2.2.2.2.1,a.2.2.2.2.2.2.2.1,a.2.2.2.2.2.2.2.2.1⟩ (27 - a.1)) (fun a=>a.1.toNat) ⟨⟨by dsimp only;omega,by dsimp only;omega⟩,hq.2,madeW.mono _ _ _ hs (by first | omega | (dsimp only;omega))⟩ (by first | omega | (dsimp only;omega)) ?_
 rintro ⟨n,sq,cl,pg,gn,pr,pd,wt,ls,li,ps,sd⟩ rec ⟨⟨h1,h2⟩,h3,h4⟩ ih
 dsimp only at h1 h2 h3 h4
 refine Zc (fun hlt=>?_) fun hlt=>Zb (madeW.mono _ _ _ h4 (by omega))
 refine ZJ ?_
 refine Zf (ZcB _ 3 h3 (by omega) (by omega)) fun a ha=>?_
 refine Zl ha.1.1 (by simpa using ha.1.2) fun c hc _=>?_
 refine Zf (Zmw _ ha.2) fun t ht=>?_
 rw [Zg (by omega) (by omega)]
 refine Zf (madeW.step _ _ _ h4 (by omega) (fun d hd=>?_) (by simp) (by simp)) fun r hr=>?_
 ·simp at hd
  subst hd
  exact ⟨⟨Zb3 _ ht.1,ZcQ,by simp,by simp,by simp,show (⟨#[]⟩:ByteArray).size≤300 by decide⟩,⟨fun _ _=>ht.1,fun e=>by cases e⟩⟩
 refine Zc (fun h0=>?_) fun _=>?_
 ·exact ih _ ⟨⟨by dsimp only;omega,by dsimp only;omega⟩,ht.2,madeW.mono _ _ _ (hr h0) (by first | omega | (dsimp only;omega))⟩ (by first | omega | (dsimp only;omega))
 ·exact ih _ ⟨⟨by dsimp only;omega,by dsimp only;omega⟩,ht.2,madeW.mono _ _ _ h4 (by first | omega | (dsimp only;omega))⟩ (by first | omega | (dsimp only;omega))
def Zft (l:List Stored) (t:Title):Stored×Bool:=match l.find? (fun p=>decide (p.title=t)) with
 | some p=>(p,true)
 | none=>(⟨⟨0,⟨#[]⟩⟩,[]⟩,false)
theorem Zgr (l:List Stored) (t:Title):(Zft l t).1.history=ZC l t:=by
 unfold Zft ZC
 cases l.find? (fun p=>decide (p.title=t))<;>rfl
theorem Zis (l:List Stored) (t:Title):(Zft l t).2=l.any (fun p=>decide (p.title=t)):=by
 unfold Zft
 cases h:l.find? (fun p=>decide (p.title=t)) with
 | none=>
   have:=List.find?_eq_none.1 h
   exact (List.any_eq_false.2 this).symm
 | some p=>
   have h1:=List.mem_of_find?_eq_some h
   have h2:=List.find?_some h
   exact (List.any_eq_true.2 ⟨p,h1,h2⟩).symm
theorem ZqO {l:List Stored} {t:Title} {i:Nat} {e:Stored} (h:∀ (j:Nat) p,j<i→l[j]? = some p→p.title≠t) (he:l[i]? = some e) (ht:e.title=t):l.find? (fun p=>decide (p.title=t))=some e:=by
 obtain ⟨hl,rfl⟩:=List.getElem?_eq_some_iff.1 he
 conv=>lhs;rw [← List.take_append_drop i l,List.drop_eq_getElem_cons hl]
 rw [List.find?_append,List.find?_eq_none.2,Option.none_or,List.find?_cons_of_pos (by simpa using ht)]
 intro p hp
 obtain ⟨j,hj⟩:=List.getElem?_of_mem hp
 have hji:=(List.getElem?_eq_some_iff.1 hj).1
 rw [List.length_take] at hji
 rw [List.getElem?_take_of_lt (by omega)] at hj
 simpa using h j p (by omega) hj
theorem Zmi (s:State) (t:Title) (hl:s.pages.length≤1000000) (hh:∀ p ∈ s.pages,1≤p.history.length∧p.history.length≤1000000):Zbr s t=some (Zft s.pages t):=by
 refine ZV ?_
 unfold Zbr
 refine Zj (fun i:Int=>(0≤i∧i≤(s.pages.length:Int))∧∀ (j:Nat) p,(j:Int)<i→s.pages[j]? = some p→p.title≠t) (fun i=>((s.pages.length:Int) - i).toNat) ⟨⟨by omega,by omega⟩,fun j p h=>by omega⟩ (by first | omega | (dsimp only;omega)) ?_
 rintro i rec ⟨⟨h0,h1⟩,h2⟩ ih
 refine Zc (fun hlt=>?_) fun hlt=>?_
 ·refine Zl h0 hlt fun e he hg=>?_
  refine Zc (fun ht=>?_) fun ht=>?_
  ·refine Za (v:=e) ?_ (Zb ?_)
   ·unfold ZcV
    rw [Zra _ (hh e he).1 (hh e he).2]
    rfl
   ·unfold Zft
    rw [ZqO (fun j p hj hp=>h2 j p (by omega) hp) hg ht]
  ·rw [Zg (by omega) (by omega)]
   refine ih _ ⟨⟨by omega,by omega⟩,fun j p hj hp=>?_⟩ (by omega)
   by_cases hji:(j:Int)<i
   ·exact h2 j p hji hp
   ·rw [show i.toNat=j by omega,hp] at hg
    injection hg with hg
    rw [hg]
    exact ht
 ·refine Zb ?_
  unfold Zft
  rw [List.find?_eq_none.2]
  intro p hp
  obtain ⟨j,hj,rfl⟩:=List.getElem_of_mem hp
  simpa using h2 j _ (by omega) (List.getElem?_eq_getElem hj)
def Zmj (h:List Revision) (n:Int):Revision×Bool:=match h.find? (fun r=>decide (r.number=n)) with
 | some r=>(r,true)
 | none=>(⟨0,⟨#[]⟩,⟨#[]⟩,⟨#[]⟩,0,0⟩,false)
theorem ZlE {l:List Revision} {n:Int} {i:Nat} {e:Revision} (h:∀ (j:Nat) p,j<i→l[j]? = some p→p.number≠n) (he:l[i]? = some e) (ht:e.number=n):l.find? (fun p=>decide (p.number=n))=some e:=by
 obtain ⟨hl,rfl⟩:=List.getElem?_eq_some_iff.1 he
 conv=>lhs;rw [← List.take_append_drop i l,List.drop_eq_getElem_cons hl]
 rw [List.find?_append,List.find?_eq_none.2,Option.none_or,List.find?_cons_of_pos (by simpa using ht)]
 intro p hp
 obtain ⟨j,hj⟩:=List.getElem?_of_mem hp
 have hji:=(List.getElem?_eq_some_iff.1 hj).1
 rw [List.length_take] at hji
 rw [List.getElem?_take_of_lt (by omega)] at hj
 simpa using h j p (by omega) hj
theorem Zmk (h:List Revision) (n:Int) (hl:h.length≤1000000):ZE Zaj (fun f2 (x11:Int)=>if decide (x11<(h.length:Int))=true then (atI h x11).bind fun e15=>if decide (e15.number=n)=true then some (e15,true) else f2 (w64 (x11+1)) else some ((⟨0,(⟨#[]⟩:ByteArray),(⟨#[]⟩:ByteArray),(⟨#[]⟩:ByteArray),0,0⟩:Revision),false)) 0=some (Zmj h n):=by
 refine ZV ?_
 refine Zj (fun i:Int=>(0≤i∧i≤(h.length:Int))∧∀ (j:Nat) p,(j:Int)<i→h[j]? = some p→p.number≠n) (fun i=>((h.length:Int) - i).toNat) ⟨⟨by omega,by omega⟩,fun j p h=>by omega⟩ (by first | omega | (dsimp only;omega)) ?_
 rintro i rec ⟨⟨h0,h1⟩,h2⟩ ih
 refine Zc (fun hlt=>?_) fun hlt=>?_
 ·refine Zl h0 hlt fun e he hg=>?_
  refine Zc (fun ht=>Zb ?_) fun ht=>?_
  ·unfold Zmj
   rw [ZlE (fun j p hj hp=>h2 j p (by omega) hp) hg ht]
  ·rw [Zg (by omega) (by omega)]
   refine ih _ ⟨⟨by omega,by omega⟩,fun j p hj hp=>?_⟩ (by omega)
   by_cases hji:(j:Int)<i
   ·exact h2 j p hji hp
   ·rw [show i.toNat=j by omega,hp] at hg
    injection hg with hg
    rw [hg]
    exact ht
 ·refine Zb ?_
  unfold Zmj
  rw [List.find?_eq_none.2]
  intro p hp
  obtain ⟨j,hj,rfl⟩:=List.getElem_of_mem hp
  simpa using h2 j _ (by omega) (List.getElem?_eq_getElem hj)
def Zjb (h:List Revision) (n:Int):ByteArray×Bool:=if n=0 then (⟨#[]⟩,true) else ((Zmj h n).1.text,(Zmj h n).2)
theorem Zkz {l:List Stored} {m:Nat} (h:∀ p ∈ l,p.history.length≤m) (t:Title):(ZC l t).length≤m:=by
 unfold ZC
 cases hf:l.find? (fun p=>decide (p.title=t)) with
 | none=>exact Nat.zero_le _
 | some p=>exact h p (List.mem_of_find?_eq_some hf)
theorem ZhO {s:State} (hl:s.pages.length≤1000000) (hh:∀ p ∈ s.pages,1≤p.history.length∧p.history.length≤1000000) (t:Title) (n:Int):ZaM s t n=some (Zjb (ZC s.pages t) n):=by
 unfold ZaM Zjb
 by_cases h:n=0
 ·rw [if_pos (decide_eq_true h),if_pos h]
 ·rw [if_neg (by simpa using h),if_neg h]
  unfold Zdc
  rw [Zmi s t hl hh,Option.bind_some,Zgr]
  have:=Zkz (fun p hp=>(hh p hp).2) t
  have e:=Zmk (ZC s.pages t) n this
  rw [e]
  rfl
def ZqP (may there:Bool) (h:List Revision) (a b:Int):Option (List Edit×Int):=
 if may=false then some ([],10) else if (there&&(Zjb h a).2&&(Zjb h b).2)=true then (Zdy (Zjb h a).1 (Zjb h b).1).bind fun r=>some (r,0) else some ([],4)
theorem Ziv {s:State} {m:Int} {u:ByteArray} {P:Policy} {G:List ByteArray} (hs:MadeK s m) (hR:RdAt s u P G) (hu:u ∈ usersG) (t:Title) (ht:t ∈ ZaJ) (a b:Int):Zb2 s u t a b=ZqP (ZiO P G 1 t) (s.pages.any (fun p=>decide (p.title=t))) (ZC s.pages t) a b:=by
 obtain ⟨t0,_,hv⟩:=hs.1.ex
 have hl:=hv.plen
 have hh:=Zrb hv
 have hr:=(ZiD _ hR.pol).1
 have hval:t.valid=true:=(show ∀ t ∈ ZaJ,t.valid=true by decide +kernel) t ht
 have hname:u=⟨#[]⟩∨Zbl u=true:=(show ∀ u ∈ usersG,u=⟨#[]⟩∨Zbl u=true by decide +kernel) u hu
 unfold Zb2 letk Zdn Zcn
 rw [hR.prog,Zmi s t (by omega) hh,ZhO (by omega) hh,ZhO (by omega) hh,hval]
 simp only [Option.bind_some]
 have e1:Zbp P u=some G:=hR.gprog
 have e2:ZbY P G 1 t=some (ZiO P G 1 t):=by unfold ZbY;rw [if_pos (by omega)]
 rw [e1]
 simp only [Option.bind_some]
 rw [e2,Zis]
 simp only [Option.bind_some]
 unfold ZqP
 have hcond:∀ (X Y:Option (List Edit×Int)),(if (!decide (u=(⟨#[]⟩:ByteArray)))=true then (if (!Zbl u)=true then X else Y) else Y)=Y:=fun X Y=>by
  rcases hname with h | h
  ·simp [h]
  ·simp [h]
 cases ZiO P G 1 t<;>cases s.pages.any (fun p=>decide (p.title=t))<;>cases (Zjb (ZC s.pages t) a).2<;>cases (Zjb (ZC s.pages t) b).2<;>simp
 all_goals
  rcases hname with h | h<;>simp [h]
def Zbu:Nat→List UInt8→List (List UInt8)
 | 0,l=>if l = [] then [] else [l]
 | k+1,l=>if Lib.indexByte l 10 = -1 then (if l = [] then [] else [l]) else l.take ((Lib.indexByte l 10).toNat+1)::Zbu k (l.drop ((Lib.indexByte l 10).toNat+1))
theorem ZgO:∀ (k:Nat) (l:List UInt8),(Zbu k l).flatten=l
 | 0,l=>by
   unfold Zbu
   split
   ·rename_i h;rw [h];rfl
   ·simp
 | k+1,l=>by
   unfold Zbu
   split
   ·split
    ·rename_i h;rw [h];rfl
    ·simp
   ·rw [List.flatten_cons,ZgO k,List.take_append_drop]
theorem Zgh:∀ (k:Nat) (l:List UInt8),(Zbu k l).length≤k+1
 | 0,l=>by
   unfold Zbu
   split<;>simp
 | k+1,l=>by
   unfold Zbu
   split
   ·split<;>simp
   ·have:=Zgh k (l.drop ((Lib.indexByte l 10).toNat+1))
    simp only [List.length_cons]
    omega
def ba (l:List UInt8):ByteArray:=⟨l.toArray⟩
theorem Zn2 (l:List UInt8):(ba l).size=l.length:=rfl
def lns (s:ByteArray):List ByteArray:=(Zbu (s.data.toList.count 10) s.data.toList).map ba
theorem Zfp:∀ (k:Nat) (l:List UInt8),l.count 10=k→∃ e,(Lib.splitK [10] 1 k l).getLast? = some e∧(Lib.splitK [10] 1 k l).length=k+1∧Zbu k l=(Lib.splitK [10] 1 k l).take (k+min 1 e.length)
 | 0,l,hk=>by
   refine ⟨l,rfl,rfl,?_⟩
   unfold Zbu Lib.splitK
   by_cases h:l = []
   ·rw [if_pos h,h];rfl
   ·rw [if_neg h]
    have:1≤l.length:=List.length_pos_iff.2 h
    rw [show 0+min 1 l.length=1 by omega]
    rfl
 | k+1,l,hk=>by
   have hidx:Lib.index l [10]=Lib.indexByte l 10:=Lib.index_one l 10
   have hne:Lib.indexByte l 10≠-1:=fun h=>by
    have:=Lib.indexByte_none h
    have hm:(10:UInt8) ∈ l:=List.count_pos_iff.1 (by omega)
    obtain ⟨j,hj⟩:=List.getElem?_of_mem hm
    exact this j hj
   have hge:=Lib.indexByte_ge l 10
   obtain ⟨i,hi⟩:∃ i:Nat,Lib.indexByte l 10=i:=⟨(Lib.indexByte l 10).toNat,by omega⟩
   obtain ⟨h1,h2⟩:=Lib.indexByte_some hi
   have hil:=(List.getElem?_eq_some_iff.1 h1).1
   have hcount:(l.drop (i+1)).count 10=k:=by
    have e:l=l.take i++10::l.drop (i+1):=by
     conv=>lhs;rw [← List.take_append_drop i l,List.drop_eq_getElem_cons hil]
     rw [(List.getElem?_eq_some_iff.1 h1).2]
    have hz:(l.take i).count 10=0:=List.count_eq_zero.2 fun hm=>by
     obtain ⟨j,hj⟩:=List.getElem?_of_mem hm
     have hji:=(List.getElem?_eq_some_iff.1 hj).1
     rw [List.length_take] at hji
     rw [List.getElem?_take_of_lt (by omega)] at hj
     exact h2 j (by omega) hj
    rw [e,List.count_append,hz,List.count_cons_self] at hk
    omega
   obtain ⟨e,e1,e2,e3⟩:=Zfp k (l.drop (i+1)) hcount
   have hs:Lib.splitK [10] 1 (k+1) l=l.take (i+1)::Lib.splitK [10] 1 k (l.drop (i+1)):=by
    rw [Lib.splitK,hidx,hi]
    rw [if_neg (by simp)]
    rfl
   refine ⟨e,?_,by rw [hs,List.length_cons,e2],?_⟩
   ·rw [hs,List.getLast?_cons,e1]
    rfl
   ·rw [hs,Zbu,if_neg hne,hi]
    rw [show k+1+min 1 e.length=(k+min 1 e.length)+1 by omega,List.take_succ_cons,Int.toNat_natCast,e3]
theorem Zqu (s:ByteArray):Lib.countB s ⟨#[10]⟩=s.data.toList.count 10:=by
 show Lib.count s.data.toList [10]=_
 exact Lib.count_one 10 s.data.toList
theorem Zl2 (s:ByteArray) (h:s.size≤1000000):Zdq s=some (lns s):=by
 have hc:Lib.countB s ⟨#[10]⟩≤1000000:=by
  have:=Lib.countB_le ⟨#[10]⟩ (by decide) s.size s (Nat.le_refl _)
  omega
 refine ZV ?_
 unfold Zdq
 refine Za (v:=Lib.splitB ⟨#[10]⟩ 1 (Lib.countB s ⟨#[10]⟩) s) ?_ ?_
 ·unfold ZbJ strings_genSplit
  rw [if_pos ⟨⟨by omega,by decide⟩,hc,rfl,by decide,by decide⟩]
  rfl
 ·have hd:=Lib.splitB_data ⟨#[10]⟩ 1 (Lib.countB s ⟨#[10]⟩) s
  obtain ⟨e,e1,e2,e3⟩:=Zfp _ s.data.toList rfl
  rw [Zqu] at hd hc ⊢
  change List.map _ _=Lib.splitK [10] 1 _ _ at hd
  generalize hR:Lib.splitB ⟨#[10]⟩ 1 (s.data.toList.count 10) s=R at *
  have hRe:R=(Lib.splitK [10] 1 (s.data.toList.count 10) s.data.toList).map ba:=by
   rw [← hd,List.map_map]
   have:(ba∘fun x:ByteArray=>x.data.toList)=id:=by funext x;rfl
   rw [this,List.map_id]
  generalize hK:s.data.toList.count 10=k at *
  have hlen:R.length=k+1:=by rw [hRe,List.length_map,e2]
  rw [Zg (by omega) (by omega)]
  refine Zl (by omega) (by omega) fun x _ hx=>?_
  have hx2:x=ba e:=by
   rw [List.getLast?_eq_getElem?] at e1
   have hidx:((R.length:Int) - 1).toNat=(Lib.splitK [10] 1 k s.data.toList).length - 1:=by omega
   rw [hidx,hRe,List.getElem?_map,e1] at hx
   injection hx with hx
   exact hx.symm
  have hsz:(x.size:Int)=e.length:=by rw [hx2,Zn2]
  have hmin:(if (x.size:Int)<1 then (x.size:Int) else 1)=((min 1 e.length:Nat):Int):=by
   rw [hsz]
   split<;>omega
  rw [hmin,Zg (by omega) (by omega)]
  refine Zfc (Int.le_refl _) (by omega) (by omega) fun m hm _=>Zb ?_
  rw [hm]
  unfold lns
  rw [hK,e3,List.map_take,← hRe]
  simp only [Int.toNat_zero,List.drop_zero,Nat.sub_zero]
  congr 1
  omega
theorem Zmc {b n:Nat} {m:Int} (hm:m=n) (h:n * b≤140737488355328) (h2:n≤9223372036854775807):Zn7 b m=some ():=by
 subst hm
 unfold Zn7
 rw [if_pos (by omega)]
theorem Zoc (x y:List ByteArray) (hx:x.length≤1000) (hy:y.length≤1000):Tot (Zdg x y) fun T=>T.length=x.length+1∧∀ r ∈ T,r.length=y.length+1:=by
 unfold Zdg
 rw [Zg (n:=(x.length:Int)+1) (by omega) (by omega),Zg (n:=(y.length:Int)+1) (by omega) (by omega),Zg (n:=(x.length:Int) - 1) (by omega) (by omega),Zg (n:=(y.length:Int) - 1) (by omega) (by omega)]
 refine Za (v:=()) (Zmc (n:=x.length+1) (by omega) (by omega) (by omega)) ?_
 refine Za (v:=()) (Zmc (n:=y.length+1) (by omega) (by omega) (by omega)) ?_
 have hr1:((x.length:Int)+1).toNat=x.length+1:=by omega
 have hr2:((y.length:Int)+1).toNat=y.length+1:=by omega
 rw [hr1,hr2]
 refine Zl (by omega) (by rw [List.length_replicate];omega) fun _ _ _=>?_
 refine Zj (fun a:Int×List (List Int)=>(-1≤a.1∧a.1<(x.length:Int))∧a.2.length=x.length+1∧∀ (k:Nat) r,a.1<(k:Int)→a.2[k]? = some r→r.length=y.length+1) (fun a=>(a.1+1).toNat)
  ⟨⟨by dsimp only;omega,by dsimp only;omega⟩,by dsimp only;rw [Za8,List.length_replicate],fun k r hk hr=>?_⟩ (by dsimp only;omega) ?_
 ·dsimp only at hk hr
  have hkl:=(List.getElem?_eq_some_iff.1 hr).1
  rw [Za8,List.length_replicate] at hkl
  unfold ZaS at hr
  rw [Int.toNat_natCast,List.getElem?_set,if_pos (by omega),if_pos (by rw [List.length_replicate];omega)] at hr
  injection hr with hr
  rw [← hr,List.length_replicate]
 rintro ⟨i,T⟩ rec ⟨⟨h1,h2⟩,h3,h4⟩ ih
 dsimp only at h1 h2 h3 h4 ⊢
 refine Zc (fun hi=>?_) fun hi=>Zb ⟨h3,fun r hr=>?_⟩
 ·refine Za (v:=()) (Zmc (n:=y.length+1) (by omega) (by omega) (by omega)) ?_
  rw [Zg (n:=i+1) (by omega) (by omega),Zg (n:=i - 1) (by omega) (by omega)]
  refine Zl (by omega) (by omega) fun B _ hB=>?_
  have hBl:=h4 _ B (by omega) hB
  refine Zj (fun a:Int×List Int=>(-1≤a.1∧a.1<(y.length:Int))∧a.2.length=y.length+1) (fun a=>(a.1+1).toNat) ⟨⟨by dsimp only;omega,by dsimp only;omega⟩,by dsimp only;rw [List.length_replicate]⟩ (by dsimp only;omega) ?_
  rintro ⟨j,row⟩ rec2 ⟨⟨g1,g2⟩,g3⟩ ih2
  dsimp only at g1 g2 g3 ⊢
  refine Zc (fun hj=>?_) fun hj=>?_
  ·rw [Zg (n:=j+1) (by omega) (by omega),Zg (n:=j - 1) (by omega) (by omega)]
   refine Zx (fun k=>∀ r:List Int,r.length=y.length+1→Tot (k r) fun T=>T.length=x.length+1∧∀ r ∈ T,r.length=y.length+1) (fun r hr=>ih2 _ ⟨⟨by dsimp only;omega,by dsimp only;omega⟩,hr⟩ (by dsimp only;omega)) fun k hk=>?_
   refine Zl hi h2 fun a _ _=>?_
   refine Zl hj g2 fun b _ _=>?_
   refine Zc (fun _=>?_) fun _=>?_
   ·refine Zl (by omega) (by omega) fun _ _ _=>?_
    refine Zl (by omega) (by omega) fun _ _ _=>?_
    exact hk _ (by rw [Za8];exact g3)
   ·refine Zl (by omega) (by omega) fun _ _ _=>?_
    refine Zl (by omega) (by omega) fun _ _ _=>?_
    refine Zl (by omega) (by omega) fun _ _ _=>?_
    exact hk _ (by rw [Za8];exact g3)
  ·refine Zl hi (by omega) fun _ _ _=>?_
   refine ih _ ⟨⟨by dsimp only;omega,by dsimp only;omega⟩,by dsimp only;rw [Za8];exact h3,fun k r hk hr=>?_⟩ (by dsimp only;omega)
   dsimp only at hk hr
   unfold ZaS at hr
   rw [List.getElem?_set] at hr
   split at hr
   ·rw [if_pos (by omega)] at hr
    injection hr with hr
    rw [← hr]
    exact g3
   ·exact h4 k r (by omega) hr
 ·obtain ⟨k,hk⟩:=List.getElem?_of_mem hr
  exact h4 k r (by omega) hk
def Za7 (l:List Edit):List ByteArray:=l.flatMap fun e=>if e.kind=3 then [] else e.lines
def Zbd (l:List Edit):List ByteArray:=l.flatMap fun e=>if e.kind=2 then [] else e.lines
theorem Zip (l:List Edit) (e:Edit):Za7 (l ++ [e])=Za7 l++if e.kind=3 then [] else e.lines:=by
 unfold Za7
 rw [List.flatMap_append]
 simp
theorem Ziq (l:List Edit) (e:Edit):Zbd (l ++ [e])=Zbd l++if e.kind=2 then [] else e.lines:=by
 unfold Zbd
 rw [List.flatMap_append]
 simp
structure ScrR (x y:List ByteArray) (i j:Nat) (s:Script):Prop where
 kinds:∀ e ∈ s.edits,1≤e.kind∧e.kind≤3
 used:Za7 s.edits++s.deleted++s.kept=x.take i
 came:Zbd s.edits++s.insert++s.kept=y.take j
 one:s.kept = []∨(s.deleted = []∧s.insert = [])
 len:s.edits.length≤3 * (i+j)
theorem Zod (f:Script→Int→List ByteArray→Option Script) (hf:∀ s k l,f s k l=if decide (0<(l.length:Int))=true then (ZcF 32 s.edits [(⟨k,l⟩:Edit)]).bind fun l1=>some ⟨l1,s.deleted,s.insert,s.kept⟩ else some s) (s:Script) (k:Int) (l:List ByteArray) (h:s.edits.length≤1000000) :
  f s k l=some ⟨if l = [] then s.edits else s.edits ++ [⟨k,l⟩],s.deleted,s.insert,s.kept⟩:=by
 rw [hf]
 by_cases hl:l = []
 ·subst hl
  rfl
 ·have:0<(l.length:Int):=by have:=List.length_pos_iff.2 hl;omega
  rw [if_pos (decide_eq_true this),if_neg hl]
  refine ZV (ZK 1000001 (by simp;omega) (by decide) (by decide) (Zb rfl))
theorem ZwT (s:Script) (k:Int) (l:List ByteArray) (h:s.edits.length≤1000000):Zab s k l=some ⟨if l = [] then s.edits else s.edits ++ [⟨k,l⟩],s.deleted,s.insert,s.kept⟩:=Zod _ (fun _ _ _=>rfl) s k l h
theorem ZwU (s:Script) (k:Int) (l:List ByteArray) (h:s.edits.length≤1000000):Zbi s k l=some ⟨if l = [] then s.edits else s.edits ++ [⟨k,l⟩],s.deleted,s.insert,s.kept⟩:=Zod _ (fun _ _ _=>rfl) s k l h
theorem ZwV (s:Script) (k:Int) (l:List ByteArray) (h:s.edits.length≤1000000):Zbj s k l=some ⟨if l = [] then s.edits else s.edits ++ [⟨k,l⟩],s.deleted,s.insert,s.kept⟩:=Zod _ (fun _ _ _=>rfl) s k l h
theorem ZwW (s:Script) (k:Int) (l:List ByteArray) (h:s.edits.length≤1000000):Zbk s k l=some ⟨if l = [] then s.edits else s.edits ++ [⟨k,l⟩],s.deleted,s.insert,s.kept⟩:=Zod _ (fun _ _ _=>rfl) s k l h
def Zdw (l:List Edit) (k:Int) (x:List ByteArray):List Edit:=if x = [] then l else l ++ [⟨k,x⟩]
theorem ZaR (l:List Edit) (k:Int) (x:List ByteArray):(Zdw l k x).length≤l.length+1:=by
 unfold Zdw
 split<;>simp
theorem ZaG (l:List Edit) (k:Int) (x:List ByteArray):Za7 (Zdw l k x)=Za7 l++if k=3 then [] else x:=by
 unfold Zdw
 split
 ·rename_i h;rw [h];simp
 ·exact Zip _ _
theorem ZaH (l:List Edit) (k:Int) (x:List ByteArray):Zbd (Zdw l k x)=Zbd l++if k=2 then [] else x:=by
 unfold Zdw
 split
 ·rename_i h;rw [h];simp
 ·exact Ziq _ _
theorem Zar {l:List Edit} {k:Int} {x:List ByteArray} (h:∀ e ∈ l,1≤e.kind∧e.kind≤3) (h1:1≤k) (h2:k≤3):∀ e ∈ Zdw l k x,1≤e.kind∧e.kind≤3:=by
 unfold Zdw
 split
 ·exact h
 ·intro e he
  rcases List.mem_append.1 he with he | he
  ·exact h e he
  ·simp at he
   rw [he]
   exact ⟨h1,h2⟩
theorem ZjK (s:Script) (h:s.edits.length≤999990):ZW s=some ⟨Zdw (Zdw s.edits 2 s.deleted) 3 s.insert,[],[],s.kept⟩:=by
 refine ZV ?_
 unfold ZW
 refine Za (ZwU s 2 s.deleted (by omega)) ?_
 refine Za (ZwV _ 3 _ (by dsimp only;have:=ZaR s.edits 2 s.deleted;unfold Zdw at this;omega)) (Zb rfl)
theorem Zmd (s:Script) (h:s.edits.length≤999990):ZX s=some ⟨Zdw s.edits 1 s.kept,s.deleted,s.insert,[]⟩:=by
 refine ZV ?_
 unfold ZX
 exact Za (ZwW s 1 s.kept (by omega)) (Zb rfl)
theorem Ztt (s:ByteArray):(lns s).length≤s.size+1:=by
 unfold lns
 rw [List.length_map]
 have h1:=Zgh (s.data.toList.count 10) s.data.toList
 have h2:s.data.toList.count 10≤s.data.toList.length:=List.count_le_length
 have h3:s.data.toList.length=s.size:=(Lib.size_eq _).symm
 omega
theorem Ztu (a b:ByteArray) (ha:a.size≤100000) (hb:b.size≤100000):Tot (Zdy a b) fun l=>(∀ e ∈ l,1≤e.kind∧e.kind≤3)∧Za7 l=lns a∧Zbd l=lns b∧l.length≤1000000:=by
 unfold Zdy
 refine Za (Zl2 a (by omega)) ?_
 refine Za (Zl2 b (by omega)) ?_
 refine Zc (fun e=>?_) fun _=>?_
 ·subst e
  refine Za (ZwT _ 1 (lns a) (by simp)) (Zb ?_)
  change (∀ e ∈ Zdw [] 1 (lns a),_)∧Za7 (Zdw [] 1 (lns a))=_∧Zbd (Zdw [] 1 (lns a))=_∧(Zdw [] 1 (lns a)).length≤_
  refine ⟨Zar (fun e h=>by cases h) (by decide) (by decide),?_,?_,?_⟩
  ·rw [ZaG];rfl
  ·rw [ZaH];rfl
  ·have:=ZaR [] 1 (lns a)
   simp at this
   omega
 generalize lns a=x
 generalize lns b=y
 refine Zx (fun k=>Tot (k true) (fun l=>(∀ e ∈ l,1≤e.kind∧e.kind≤3)∧Za7 l=x∧Zbd l=y∧l.length≤1000000)∧(x.length≤1000→y.length≤1000→Tot (k false) fun l=>(∀ e ∈ l,1≤e.kind∧e.kind≤3)∧Za7 l=x∧Zbd l=y∧l.length≤1000000)) ⟨?_,fun hx hy=>?_⟩ fun k hk=>?_
 ·refine ZH rfl ?_
  refine Za (ZwT _ 2 x (by simp)) ?_
  change Tot ((Zab (⟨Zdw [] 2 x,[],[],[]⟩:Script) 3 y).bind _) _
  have h1:=ZaR [] 2 x
  simp at h1
  refine Za (ZwT _ 3 y (by dsimp only;omega)) (Zb ?_)
  change (∀ e ∈ Zdw (Zdw [] 2 x) 3 y,_)∧Za7 (Zdw (Zdw [] 2 x) 3 y)=_∧Zbd (Zdw (Zdw [] 2 x) 3 y)=_∧(Zdw (Zdw [] 2 x) 3 y).length≤_
  refine ⟨Zar (Zar (fun e h=>by cases h) (by decide) (by decide)) (by decide) (by decide),?_,?_,?_⟩
  ·rw [ZaG,ZaG];simp [Za7]
  ·rw [ZaH,ZaH];simp [Zbd]
  ·have:=ZaR (Zdw [] 2 x) 3 y
   omega
 ·refine Zs rfl ?_
  refine Zf (Zoc x y hx hy) fun T hT=>?_
  obtain ⟨hT1,hT2⟩:=hT
  refine Zj (fun a:Int×Int×List Edit×List ByteArray×List ByteArray×List ByteArray=>∃ i j:Nat,a.1=i∧a.2.1=j∧i≤x.length∧j≤y.length∧ScrR x y i j ⟨a.2.2.1,a.2.2.2.1,a.2.2.2.2.1,a.2.2.2.2.2⟩) (fun a=>((x.length:Int) - a.1).toNat+((y.length:Int) - a.2.1).toNat) ⟨0,0,rfl,rfl,Nat.zero_le _,Nat.zero_le _,⟨fun e h=>(by cases h),rfl,rfl,.inl rfl,by simp⟩⟩ (by dsimp only;omega) ?_
  rintro ⟨ii,jj,ed,dl,is,kp⟩ rec ⟨i,j,e1,e2,hi,hj,hS⟩ ih
  dsimp only at e1 e2 hS
  subst e1 e2
  have s1:=hS.kinds
  have s2:=hS.used
  have s3:=hS.came
  have s4:=hS.one
  have s5:=hS.len
  dsimp only at s1 s2 s3 s4 s5
  have dlen:dl.length≤i:=by
   have:=congrArg List.length s2
   simp at this
   omega
  have ilen:is.length≤j:=by
   have:=congrArg List.length s3
   simp at this
   omega
  have klen:kp.length≤i:=by
   have:=congrArg List.length s2
   simp at this
   omega
  have w1:∀ n:Nat,n≤1000→w64 ((n:Int)+1)=(n:Int)+1:=fun n hn=>Zg (by omega) (by omega)
  refine Zx (fun k=>(i<x.length∨j<y.length→Tot (k true) fun l=>(∀ e ∈ l,1≤e.kind∧e.kind≤3)∧Za7 l=x∧Zbd l=y∧l.length≤1000000)∧(i=x.length→j=y.length→Tot (k false) fun l=>(∀ e ∈ l,1≤e.kind∧e.kind≤3)∧Za7 l=x∧Zbd l=y∧l.length≤1000000)) ⟨fun hor=>?_,fun hxe hye=>?_⟩ fun k hk=>?_
  ·refine ZH rfl ?_
   refine Zx (fun k=>(∀ (h1:i<x.length) (h2:j<y.length),x[i]=y[j]→Tot (k true) fun l=>(∀ e ∈ l,1≤e.kind∧e.kind≤3)∧Za7 l=x∧Zbd l=y∧l.length≤1000000)∧(Tot (k false) fun l=>(∀ e ∈ l,1≤e.kind∧e.kind≤3)∧Za7 l=x∧Zbd l=y∧l.length≤1000000)) ⟨fun h1 h2 hxy=>?_,?_⟩ fun k hk=>?_
   ·refine ZH rfl ?_
    refine Za (ZjK _ (by dsimp only;omega)) ?_
    have hx1:x[i]? = some x[i]:=List.getElem?_eq_getElem h1
    have hy1:y[j]? = some y[j]:=List.getElem?_eq_getElem h2
    refine Za (v:=x[i]) (by rw [ZbX hx1]) ?_
    refine ZK 2000 (by simp;omega) (by decide) (by decide) ?_
    rw [w1 i (by omega),w1 j (by omega)]
    refine ih _ ⟨i+1,j+1,by dsimp only;omega,by dsimp only;omega,h1,h2,⟨Zar (Zar s1 (by decide) (by decide)) (by decide) (by decide),?_,?_,?_,?_⟩⟩ (by dsimp only;omega)
    ·dsimp only
     rw [ZaG,ZaG,List.take_add_one,hx1,← s2]
     simp
    ·dsimp only
     rw [ZaH,ZaH,List.take_add_one,hy1,← s3,hxy]
     simp
    ·exact .inr ⟨rfl,rfl⟩
    ·dsimp only
     have a1:=ZaR (Zdw ed 2 dl) 3 is
     have a2:=ZaR ed 2 dl
     omega
   ·refine Zs rfl ?_
    refine Zx (fun k=>(i<x.length→Tot (k true) fun l=>(∀ e ∈ l,1≤e.kind∧e.kind≤3)∧Za7 l=x∧Zbd l=y∧l.length≤1000000)∧(j<y.length→Tot (k false) fun l=>(∀ e ∈ l,1≤e.kind∧e.kind≤3)∧Za7 l=x∧Zbd l=y∧l.length≤1000000)) ⟨fun h1=>?_,fun h2=>?_⟩ fun k hk=>?_
    ·refine ZH rfl ?_
     refine Za (Zmd _ (by dsimp only;omega)) ?_
     have hx1:x[i]? = some x[i]:=List.getElem?_eq_getElem h1
     refine Za (v:=x[i]) (by rw [ZbX hx1]) ?_
     refine ZK 2000 (by simp;omega) (by decide) (by decide) ?_
     rw [w1 i (by omega)]
     refine ih _ ⟨i+1,j,by dsimp only;omega,rfl,h1,hj,⟨Zar s1 (by decide) (by decide),?_,?_,.inl rfl,?_⟩⟩ (by dsimp only;omega)
     ·dsimp only
      rw [ZaG,List.take_add_one,hx1,← s2]
      rcases s4 with h | ⟨h,h'⟩
      ·rw [h];simp
      ·rw [h];simp
     ·dsimp only
      rw [ZaH,← s3]
      rcases s4 with h | ⟨h,h'⟩
      ·rw [h];simp
      ·rw [h'];simp
     ·dsimp only
      have a2:=ZaR ed 1 kp
      omega
    ·refine Zs rfl ?_
     refine Za (Zmd _ (by dsimp only;omega)) ?_
     have hy1:y[j]? = some y[j]:=List.getElem?_eq_getElem h2
     refine Za (v:=y[j]) (by rw [ZbX hy1]) ?_
     refine ZK 2000 (by simp;omega) (by decide) (by decide) ?_
     rw [w1 j (by omega)]
     refine ih _ ⟨i,j+1,rfl,by dsimp only;omega,hi,h2,⟨Zar s1 (by decide) (by decide),?_,?_,.inl rfl,?_⟩⟩ (by dsimp only;omega)
     ·dsimp only
      rw [ZaG,← s2]
      rcases s4 with h | ⟨h,h'⟩
      ·rw [h];simp
      ·rw [h];simp
     ·dsimp only
      rw [ZaH,List.take_add_one,hy1,← s3]
      rcases s4 with h | ⟨h,h'⟩
      ·rw [h];simp
      ·rw [h'];simp
     ·dsimp only
      have a2:=ZaR ed 1 kp
      omega
    ·refine Zc (fun hje=>hk.1 (by omega)) fun hje=>?_
     refine Zc (fun hlt=>?_) fun hlt=>hk.2 (by omega)
     rw [w1 i (by omega)]
     refine Zl (by omega) (by omega) fun r1 hr1 _=>?_
     refine Zl (by omega) (by rw [hT2 r1 hr1];omega) fun v1 _ _=>?_
     refine Zl (by omega) (by omega) fun r2 hr2 _=>?_
     rw [w1 j (by omega)]
     refine Zl (by omega) (by rw [hT2 r2 hr2];omega) fun v2 _ _=>?_
     cases hd:decide (v2≤v1)
     ·exact hk.2 (by omega)
     ·exact hk.1 (by omega)
   ·refine Zc (fun h1=>?_) fun _=>hk.2
    refine Zc (fun h2=>?_) fun _=>hk.2
    refine Zl (by omega) h1 fun u _ hu=>?_
    refine Zl (by omega) h2 fun v _ hv=>?_
    rw [Int.toNat_natCast,List.getElem?_eq_getElem (by omega)] at hu hv
    injection hu with hu
    injection hv with hv
    by_cases huv:u=v
    ·rw [decide_eq_true huv]
     exact hk.1 (by omega) (by omega) (by rw [hu,hv,huv])
    ·rw [decide_eq_false huv]
     exact hk.2
  ·refine Zs rfl ?_
   refine Za (Zmd _ (by dsimp only;omega)) ?_
   have a1:=ZaR ed 1 kp
   refine Za (ZjK _ (by dsimp only;omega)) (Zb ?_)
   dsimp only
   refine ⟨Zar (Zar (Zar s1 (by decide) (by decide)) (by decide) (by decide)) (by decide) (by decide),?_,?_,?_⟩
   ·rw [ZaG,ZaG,ZaG]
    rw [hxe,List.take_length] at s2
    rw [← s2]
    rcases s4 with h | ⟨h,h'⟩
    ·rw [h];simp
    ·rw [h];simp
   ·rw [ZaH,ZaH,ZaH]
    rw [hye,List.take_length] at s3
    rw [← s3]
    rcases s4 with h | ⟨h,h'⟩
    ·rw [h];simp
    ·rw [h'];simp
   ·have a2:=ZaR (Zdw ed 1 kp) 2 dl
    have a3:=ZaR (Zdw (Zdw ed 1 kp) 2 dl) 3 is
    omega
  ·refine Zc (fun h=>hk.1 (.inl (by omega))) fun h=>?_
   by_cases h2:(j:Int)<(y.length:Int)
   ·rw [decide_eq_true h2]
    exact hk.1 (.inr (by omega))
   ·rw [decide_eq_false h2]
    exact hk.2 (by omega) (by omega)
 ·refine Zc (fun _=>hk.1) fun h1=>?_
  by_cases h2:1000<(y.length:Int)
  ·rw [decide_eq_true h2]
   exact hk.1
  ·rw [decide_eq_false h2]
   exact hk.2 (by omega) (by omega)
structure HistN (h:List Revision):Prop where
 len:h.length≤40
 num:∀ (i:Nat) r,h[i]? = some r→r.number=(i:Int)+1
 text:∀ r ∈ h,r.text.size≤8192
theorem Zw0 {t0:ByteArray} {q:Int} {s:State} (hv:VS t0 q s) (t:Title):HistN (ZC s.pages t):=by
 unfold ZC
 cases hf:s.pages.find? (fun p=>decide (p.title=t)) with
 | none=>exact ⟨Nat.zero_le _,fun i r h=>(by simp at h),fun r h=>(by cases h)⟩
 | some p=>
   have hp:=(hv.pages p (List.mem_of_find?_eq_some hf)).hist
   exact ⟨hp.len2,hp.num,fun r hr=>(hp.all r hr).text⟩
theorem ZhN {h:List Revision} (hN:HistN h) (n:Int):(Zjb h n).1=(Zmj h n).1.text∧(Zjb h n).1.size≤8192:=by
 have hr:(Zmj h n).1.text.size≤8192:=by
  unfold Zmj
  cases hf:h.find? (fun r=>decide (r.number=n)) with
  | none=>decide
  | some r=>exact hN.text r (List.mem_of_find?_eq_some hf)
 unfold Zjb
 split
 ·rename_i h0
  refine ⟨?_,by decide⟩
  unfold Zmj
  rw [List.find?_eq_none.2]
  intro r hm
  obtain ⟨j,hj⟩:=List.getElem?_of_mem hm
  have:=hN.num j r hj
  simp
  omega
 ·exact ⟨rfl,hr⟩
end Go.Proofs.YtjoneoobolnnbaaGreatDoor
