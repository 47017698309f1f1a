/- Functions of the program as Lean functions. Written by fxgen.py. | == and != of items. -/
import Derived.Test.YtjoneoobolnnbaaGreatDoorCF31
import Derived.Test.YtjoneoobolnnbaaGreatDoorCF32
import Derived.Test.YtjoneoobolnnbaaGreatDoorCF04
import Derived.Test.YtjoneoobolnnbaaGreatDoorCF03
import Derived.Test.YtjoneoobolnnbaaGreatDoorCF02
set_option linter.unusedVariables false
set_option maxHeartbeats 4000000
set_option maxRecDepth 100000
namespace Go.Proofs.YtjoneoobolnnbaaGreatDoor
open VL
def Zgq (p0:ByteArray):Option State:=
 (Ze4).bind fun r1=>
 (ZaZ (⟨0,0,[],[],[],0,[],[]⟩:State) [(⟨1,(⟨#[]⟩:ByteArray),(⟨#[]⟩:ByteArray),r1,(⟨0,(⟨#[]⟩:ByteArray)⟩:Title),p0,0,[]⟩:Change)]).bind fun r2=>
 (some r2.1:Option State)
theorem ZkI (p0:ByteArray) (r:State) (hF:Zgq p0=some r):Zb Tryz.prog 35 [.str p0] (r.pv):=by
 refine cF (fun r=>r.pv) hF mix Tryz.func35 fun r hF=>?_
 unfold Zgq at hF
 refine Za ?_
 refine rg ?_
 refine rg ?_
 obtain ⟨r1,h1,hF⟩:=bnd hF
 refine Zf (Zjg _ h1) rfl rfl (Za ?_)
 refine Zw (M:=([(⟨1,(⟨#[]⟩:ByteArray),(⟨#[]⟩:ByteArray),r1,(⟨0,(⟨#[]⟩:ByteArray)⟩:Title),p0,0,[]⟩:Change)]:List Change)) (f:=Change.cs) rfl rfl rfl rfl (Nat.le_of_ble_eq_true rfl) rfl (Za ?_)
 obtain ⟨r2,h2,hF⟩:=bnd hF
 refine Zf (Zc1 _ _ _ h2) rfl rfl (Za ?_)
 refine rg ?_
 cases hF
 exact rQ
def Zhw (p0:State) (p1:SrcF) (p2:Int):Option (State×SrcF):=
 ZK Zax (fun f7 ((x73,x74,x75,x76,x77,x78,x79,x80,x81,x82,x83,x84):Int×(List Int)×Int×Int×Int×Int×(List Stored)×(List Stored)×(List Proposal)×Int×(List Watch)×(List Last))=>
  if (decide (0<x73)) then
   letk (fun (x102:List Int) (x103:Int) (x104:Int) (x105:Int) (x106:Int) (x107:List Stored) (x108:List Stored) (x109:List Proposal) (x110:Int) (x111:List Watch) (x112:List Last)=>
    f7 ((w64 (x73 - 1)),x102,x103,x104,x105,x106,x107,x108,x109,x110,x111,x112)) fun k8=>
   (ZeS (⟨x74,x75,x76⟩:SrcF) x78).bind fun r113=>
   (ZaZ (⟨x77,x78,x79,x80,x81,x82,x83,x84⟩:State) r113.1).bind fun r114=>
   if (decide (r114.2=0)) then
    k8 r113.2.l r113.2.pos r113.2.seed r114.1.seq r114.1.clock r114.1.pages r114.1.gone r114.1.proposals r114.1.proposed r114.1.watches r114.1.lasts
   else
   k8 r113.2.l r113.2.pos r113.2.seed x77 x78 x79 x80 x81 x82 x83 x84
  else
  (some ((⟨x77,x78,x79,x80,x81,x82,x83,x84⟩:State),(⟨x74,x75,x76⟩:SrcF)):Option (State×SrcF))) (p2,p1.l,p1.pos,p1.seed,p0.seq,p0.clock,p0.pages,p0.gone,p0.proposals,p0.proposed,p0.watches,p0.lasts)
theorem Zpn (p0:State) (p1:SrcF) (p2:Int) (r:State×SrcF) (hF:Zhw p0 p1 p2=some r):Contract Tryz.prog 65 [p0.pv,.ptr 1 (0,1) 0,.int .i64 p2] (some (1,p1.cs)) (r.1.pv) (r.2).cs:=by
 refine ZaX (R:=fun r=>r.1.pv) (O:=fun r=>(r.2).cs) hF mix Tryz.func65 (by kernel_rfl) rfl (by kernel_rfl) fun r hF=>?_
 unfold Zhw at hF
 refine Za ?_
 refine rg ?_
 refine bl ?_
 refine Zn hF fun f7 mf7 hf7 hF=>?_
 refine Zl (α:=Nat×(Int×(List Int)×Int×Int×Int×Int×(List Stored)×(List Stored)×(List Proposal)×Int×(List Watch)×(List Last))) (fun a _=>mkS [(1,.ptr 1 (0,1) 0),(2,.int .i64 a.2.1),(3,.ptr 3 (1,3) 0),(6,.ptr 6 (1,6) 0)] [(1,some ((0,1),.box [.sl (List.map csI a.2.2.1),.int .i64 a.2.2.2.1,.int .u64 a.2.2.2.2.1])),(3,some ((1,3),.box [.int .i64 a.2.2.2.2.2.1,.int .i64 a.2.2.2.2.2.2.1,.sl (List.map Stored.cs a.2.2.2.2.2.2.2.1),.sl (List.map Stored.cs a.2.2.2.2.2.2.2.2.1),.sl (List.map Proposal.cs a.2.2.2.2.2.2.2.2.2.1),.int .i64 a.2.2.2.2.2.2.2.2.2.2.1,.sl (List.map Watch.cs a.2.2.2.2.2.2.2.2.2.2.2.1),.sl (List.map Last.cs a.2.2.2.2.2.2.2.2.2.2.2.2)])),(6,some ((1,6),.box [.int .i64 0,.int .i64 0,.nil,.nil,.nil,.int .i64 0,.nil,.nil]))] 2) (fun a=>ZK a.1 f7 a.2=some r) (fun a=>a.1) (mf7,p2,p1.l,p1.pos,p1.seed,p0.seq,p0.clock,p0.pages,p0.gone,p0.proposals,p0.proposed,p0.watches,p0.lasts) 2 hF (sR [(3,1,0),(6,1,1)]) (fun a _ hF=>?_)
 obtain ⟨mf7,x73,x74,x75,x76,x77,x78,x79,x80,x81,x82,x83,x84⟩:=a
 obtain ⟨mf7,rfl,hF⟩:=Zo hf7 hF
 dsimp only at hF ⊢
 refine Za ?_
 refine rg ?_
 refine cS hF rfl (fun hF=>?_) fun hF=>?_
 ·refine Zar hF fun k8 hk8 hF=>?_
  refine ZaF (α:=(List Int)×Int×Int×Int×Int×(List Stored)×(List Stored)×(List Proposal)×Int×(List Watch)×(List Last)) (fun a _=>mkS [(1,.ptr 1 (0,1) 0),(2,.int .i64 x73),(3,.ptr 3 (1,3) 0),(6,.ptr 6 (1,6) 0)] [(1,some ((0,1),.box [.sl (List.map csI a.1),.int .i64 a.2.1,.int .u64 a.2.2.1])),(3,some ((1,3),.box [.int .i64 a.2.2.2.1,.int .i64 a.2.2.2.2.1,.sl (List.map Stored.cs a.2.2.2.2.2.1),.sl (List.map Stored.cs a.2.2.2.2.2.2.1),.sl (List.map Proposal.cs a.2.2.2.2.2.2.2.1),.int .i64 a.2.2.2.2.2.2.2.2.1,.sl (List.map Watch.cs a.2.2.2.2.2.2.2.2.2.1),.sl (List.map Last.cs a.2.2.2.2.2.2.2.2.2.2)])),(6,some ((1,6),.box [.int .i64 0,.int .i64 0,.nil,.nil,.nil,.int .i64 0,.nil,.nil]))] 2) (fun a=>k8 a.1 a.2.1 a.2.2.1 a.2.2.2.1 a.2.2.2.2.1 a.2.2.2.2.2.1 a.2.2.2.2.2.2.1 a.2.2.2.2.2.2.2.1 a.2.2.2.2.2.2.2.2.1 a.2.2.2.2.2.2.2.2.2.1 a.2.2.2.2.2.2.2.2.2.2=some r) (Za ?_) (fun a _ hF=>?_)
  ·refine bl ?_
   refine rg ?_
   obtain ⟨r113,h23,hF⟩:=bnd hF
   refine Zac (Zm1 _ _ _ h23) rfl rfl rfl rfl rfl (Za ?_)
   obtain ⟨r114,h24,hF⟩:=bnd hF
   refine Zf (Zc1 _ _ _ h24) rfl rfl (Za ?_)
   refine rg ?_
   refine cS hF rfl (fun hF=>?_) fun hF=>?_
   ·refine rg ?_
    exact jn (r113.2.l,r113.2.pos,r113.2.seed,r114.1.seq,r114.1.clock,r114.1.pages,r114.1.gone,r114.1.proposals,r114.1.proposed,r114.1.watches,r114.1.lasts) hF (sR [(3,1,3),(6,1,6)])
   exact jn (r113.2.l,r113.2.pos,r113.2.seed,x77,x78,x79,x80,x81,x82,x83,x84) hF (sR [(3,1,3),(6,1,6)])
  obtain ⟨x102,x103,x104,x105,x106,x107,x108,x109,x110,x111,x112⟩:=a
  subst hk8
  dsimp only at hF ⊢
  refine Za ?_
  refine rg ?_
  exact rn (mf7,(w64 (x73 - 1)),x102,x103,x104,x105,x106,x107,x108,x109,x110,x111,x112) hF (sR [(3,1,3),(6,1,6)])
 refine rg ?_
 cases hF
 exact Zfx rfl rfl rfl rfl rfl
def Zhx (p0:List Int):Option State:=
 (ZhU p0).bind fun r1=>
 (Zgg r1).bind fun r2=>
 (Zgq r2.1).bind fun r3=>
 (ZA r2.2 5).bind fun r4=>
 ZK Zax (fun f7 ((x101,x102,x103,x104,x105,x106,x107,x108,x109,x110,x111,x112):Int×Int×Int×(List Stored)×(List Stored)×(List Proposal)×Int×(List Watch)×(List Last)×(List Int)×Int×Int)=>
  if (decide (x101<(w64 (3+r4.1)))) then
   letk (fun (x139:Int) (x140:Int) (x141:List Stored) (x142:List Stored) (x143:List Proposal) (x144:Int) (x145:List Watch) (x146:List Last) (x147:List Int) (x148:Int) (x149:Int)=>
    f7 ((w64 (x101+1)),x139,x140,x141,x142,x143,x144,x145,x146,x147,x148,x149)) fun k8=>
   (ZgX (⟨x110,x111,x112⟩:SrcF)).bind fun r150=>
   (ZfJ).bind fun r151=>
   (atI r151 x101).bind fun e152=>
   (Zhj r150.2).bind fun r153=>
   (ZaZ (⟨x102,x103,x104,x105,x106,x107,x108,x109⟩:State) [(⟨1,r150.1,(⟨#[]⟩:ByteArray),e152,(⟨0,(⟨#[]⟩:ByteArray)⟩:Title),r153.1,0,[]⟩:Change)]).bind fun r154=>
   if (decide (r154.2=0)) then
    k8 r154.1.seq r154.1.clock r154.1.pages r154.1.gone r154.1.proposals r154.1.proposed r154.1.watches r154.1.lasts r153.2.l r153.2.pos r153.2.seed
   else
   k8 x102 x103 x104 x105 x106 x107 x108 x109 r153.2.l r153.2.pos r153.2.seed
  else
  (ZA (⟨x110,x111,x112⟩:SrcF) 7).bind fun r155=>
  (Zhw (⟨x102,x103,x104,x105,x106,x107,x108,x109⟩:State) r155.2 r155.1).bind fun r156=>
  (some r156.1:Option State)) (0,r3.seq,r3.clock,r3.pages,r3.gone,r3.proposals,r3.proposed,r3.watches,r3.lasts,r4.2.l,r4.2.pos,r4.2.seed)
theorem Zpo (p0:List Int) (r:State) (hF:Zhx p0=some r):Zb Tryz.prog 32 [.sl (List.map csI p0)] (r.pv):=by
 refine cF (fun r=>r.pv) hF mix Tryz.func32 fun r hF=>?_
 unfold Zhx at hF
 refine Za ?_
 refine rg ?_
 refine rg ?_
 obtain ⟨r1,h1,hF⟩:=bnd hF
 refine Zev (Zme _ _ h1) rfl rfl (Za ?_)
 refine rg ?_
 obtain ⟨r2,h2,hF⟩:=bnd hF
 refine Zac (Zod _ _ h2) rfl rfl rfl rfl rfl (Za ?_)
 obtain ⟨r3,h3,hF⟩:=bnd hF
 refine Zf (ZkI _ _ h3) rfl rfl (Za ?_)
 refine rg ?_
 obtain ⟨r4,h4,hF⟩:=bnd hF
 refine Zac (ZC _ _ _ h4) rfl rfl rfl rfl rfl (Za ?_)
 refine rg ?_
 refine bl ?_
 refine Zn hF fun f7 mf7 hf7 hF=>?_
 refine Zl (α:=Nat×(Int×Int×Int×(List Stored)×(List Stored)×(List Proposal)×Int×(List Watch)×(List Last)×(List Int)×Int×Int)) (fun a _=>mkS [(2,.ptr 2 (1,2) 0),(3,.ptr 10 (1,10) 0),(4,.ptr 4 (1,4) 0),(5,.int .i64 (w64 (3+r4.1))),(6,.int .i64 a.2.1)] [(2,some ((1,2),.box [.int .i64 0,.int .i64 0,.nil,.nil,.nil,.int .i64 0,.nil,.nil])),(4,some ((1,4),.box [.int .i64 a.2.2.1,.int .i64 a.2.2.2.1,.sl (List.map Stored.cs a.2.2.2.2.1),.sl (List.map Stored.cs a.2.2.2.2.2.1),.sl (List.map Proposal.cs a.2.2.2.2.2.2.1),.int .i64 a.2.2.2.2.2.2.2.1,.sl (List.map Watch.cs a.2.2.2.2.2.2.2.2.1),.sl (List.map Last.cs a.2.2.2.2.2.2.2.2.2.1)])),(10,some ((1,10),.box [.sl (List.map csI a.2.2.2.2.2.2.2.2.2.2.1),.int .i64 a.2.2.2.2.2.2.2.2.2.2.2.1,.int .u64 a.2.2.2.2.2.2.2.2.2.2.2.2]))] 2) (fun a=>ZK a.1 f7 a.2=some r) (fun a=>a.1) (mf7,0,r3.seq,r3.clock,r3.pages,r3.gone,r3.proposals,r3.proposed,r3.watches,r3.lasts,r4.2.l,r4.2.pos,r4.2.seed) 2 hF (sR [(2,1,0),(4,3,3),(10,2,1)]) (fun a _ hF=>?_)
 obtain ⟨mf7,x101,x102,x103,x104,x105,x106,x107,x108,x109,x110,x111,x112⟩:=a
 obtain ⟨mf7,rfl,hF⟩:=Zo hf7 hF
 dsimp only at hF ⊢
 refine Za ?_
 refine rg ?_
 refine cS hF rfl (fun hF=>?_) fun hF=>?_
 ·refine Zar hF fun k8 hk8 hF=>?_
  refine ZaF (α:=Int×Int×(List Stored)×(List Stored)×(List Proposal)×Int×(List Watch)×(List Last)×(List Int)×Int×Int) (fun a _=>mkS [(2,.ptr 2 (1,2) 0),(3,.ptr 10 (1,10) 0),(4,.ptr 4 (1,4) 0),(5,.int .i64 (w64 (3+r4.1))),(6,.int .i64 x101)] [(2,some ((1,2),.box [.int .i64 0,.int .i64 0,.nil,.nil,.nil,.int .i64 0,.nil,.nil])),(4,some ((1,4),.box [.int .i64 a.1,.int .i64 a.2.1,.sl (List.map Stored.cs a.2.2.1),.sl (List.map Stored.cs a.2.2.2.1),.sl (List.map Proposal.cs a.2.2.2.2.1),.int .i64 a.2.2.2.2.2.1,.sl (List.map Watch.cs a.2.2.2.2.2.2.1),.sl (List.map Last.cs a.2.2.2.2.2.2.2.1)])),(10,some ((1,10),.box [.sl (List.map csI a.2.2.2.2.2.2.2.2.1),.int .i64 a.2.2.2.2.2.2.2.2.2.1,.int .u64 a.2.2.2.2.2.2.2.2.2.2]))] 2) (fun a=>k8 a.1 a.2.1 a.2.2.1 a.2.2.2.1 a.2.2.2.2.1 a.2.2.2.2.2.1 a.2.2.2.2.2.2.1 a.2.2.2.2.2.2.2.1 a.2.2.2.2.2.2.2.2.1 a.2.2.2.2.2.2.2.2.2.1 a.2.2.2.2.2.2.2.2.2.2=some r) (Za ?_) (fun a _ hF=>?_)
  ·refine bl ?_
   refine rg ?_
   obtain ⟨r150,h60,hF⟩:=bnd hF
   refine Zac (Zjh _ _ h60) rfl rfl rfl rfl rfl (Za ?_)
   obtain ⟨r151,h61,hF⟩:=bnd hF
   refine Zf (Zjf _ h61) rfl rfl (Za ?_)
   obtain ⟨e152,h62,hF⟩:=bnd hF
   refine Zk (f:=Title.cs) rfl h62 rfl rfl rfl (Za ?_)
   obtain ⟨r153,h63,hF⟩:=bnd hF
   refine Zac (Zkd _ _ h63) rfl rfl rfl rfl rfl (Za ?_)
   refine Zw (M:=([(⟨1,r150.1,(⟨#[]⟩:ByteArray),e152,(⟨0,(⟨#[]⟩:ByteArray)⟩:Title),r153.1,0,[]⟩:Change)]:List Change)) (f:=Change.cs) rfl rfl rfl rfl (Nat.le_of_ble_eq_true rfl) rfl (Za ?_)
   obtain ⟨r154,h64,hF⟩:=bnd hF
   refine Zf (Zc1 _ _ _ h64) rfl rfl (Za ?_)
   refine rg ?_
   refine cS hF rfl (fun hF=>?_) fun hF=>?_
   ·refine rg ?_
    exact jn (r154.1.seq,r154.1.clock,r154.1.pages,r154.1.gone,r154.1.proposals,r154.1.proposed,r154.1.watches,r154.1.lasts,r153.2.l,r153.2.pos,r153.2.seed) hF (sR [(2,1,2),(4,1,4),(10,1,10)])
   exact jn (x102,x103,x104,x105,x106,x107,x108,x109,r153.2.l,r153.2.pos,r153.2.seed) hF (sR [(2,1,2),(4,1,4),(10,1,10)])
  obtain ⟨x139,x140,x141,x142,x143,x144,x145,x146,x147,x148,x149⟩:=a
  subst hk8
  dsimp only at hF ⊢
  refine Za ?_
  refine rg ?_
  exact rn (mf7,(w64 (x101+1)),x139,x140,x141,x142,x143,x144,x145,x146,x147,x148,x149) hF (sR [(2,1,2),(4,1,4),(10,1,10)])
 refine rg ?_
 obtain ⟨r155,h65,hF⟩:=bnd hF
 refine Zac (ZC _ _ _ h65) rfl rfl rfl rfl rfl (Za ?_)
 obtain ⟨r156,h66,hF⟩:=bnd hF
 refine Zqd (pre:=[_]) (pre':=[_]) (Zpn _ _ _ _ h66) rfl rfl rfl rfl rfl rfl (Za ?_)
 cases hF
 exact rQ
end Go.Proofs.YtjoneoobolnnbaaGreatDoor
set_option linter.unusedSimpArgs false
namespace Go.Proofs.YtjoneoobolnnbaaGreatDoor
open VL Go.RowKit
theorem ZuO (a b:Item) (W:World):(binOp .eql 52 (.agg #[.int .i64 a.title.space,.string a.title.name,.int .i64 a.number,.string a.user,.string a.note,.int .i64 a.minute]) (.agg #[.int .i64 b.title.space,.string b.title.name,.int .i64 b.number,.string b.user,.string b.note,.int .i64 b.minute])).run Tryz.prog W = .ok (.bool (decide (a=b))) W:=by
 have e:(if a.title.space=b.title.space then if a.title.name.toList=b.title.name.toList then if a.number=b.number then if a.user.toList=b.user.toList then if a.note.toList=b.note.toList then if a.minute=b.minute then true else false else false else false else false else false else false)=(decide (a=b)):=by
  obtain ⟨⟨a1,a2⟩,a3,a4,a5,a6⟩:=a
  obtain ⟨⟨b1,b2⟩,b3,b4,b5,b6⟩:=b
  simp only [Item.mk.injEq,Title.mk.injEq,ZbQ]
  (repeat' split)<;>simp_all
 rw [← e]
 go_simp
 (repeat' split)<;>simp_all
theorem ZuP (a b:Item) (W:World):(binOp .neq 52 (.agg #[.int .i64 a.title.space,.string a.title.name,.int .i64 a.number,.string a.user,.string a.note,.int .i64 a.minute]) (.agg #[.int .i64 b.title.space,.string b.title.name,.int .i64 b.number,.string b.user,.string b.note,.int .i64 b.minute])).run Tryz.prog W = .ok (.bool (!decide (a=b))) W:=by
 have e:(if a.title.space=b.title.space then if a.title.name.toList=b.title.name.toList then if a.number=b.number then if a.user.toList=b.user.toList then if a.note.toList=b.note.toList then if a.minute=b.minute then false else true else true else true else true else true else true)=(!decide (a=b)):=by
  obtain ⟨⟨a1,a2⟩,a3,a4,a5,a6⟩:=a
  obtain ⟨⟨b1,b2⟩,b3,b4,b5,b6⟩:=b
  simp only [Item.mk.injEq,Title.mk.injEq,ZbQ]
  (repeat' split)<;>simp_all
 rw [← e]
 go_simp
 (repeat' split)<;>simp_all
end Go.Proofs.YtjoneoobolnnbaaGreatDoor
