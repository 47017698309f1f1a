/- Functions of the program as Lean functions. Written by -/
import Derived.Test.YtpdaeclbndpabaaGreatDoorCM25
import Derived.Test.YtpdaeclbndpabaaGreatDoorCM23
set_option linter.unusedSimpArgs false
set_option linter.unusedVariables false
set_option maxHeartbeats 4000000
set_option maxRecDepth 100000
namespace Go.Proofs.YtpdaeclbndpabaaGreatDoor
section
open VL
def Zha (p0:ByteArray):Option State:=(ZfJ).bind fun r1=>(Zay (⟨0,0,[],[],[],0,[],[]⟩:State) [(⟨1,(⟨#[]⟩:ByteArray),(⟨#[]⟩:ByteArray),r1,(⟨0,(⟨#[]⟩:ByteArray)⟩:Title),p0,0,[]⟩:Change)]).bind fun r2=>(some r2.1:Option State)
theorem Zmd (p0:ByteArray) (r:State) (h:Zha p0=some r):Zb Tryz.prog 15 [.str p0] (r.pv):=by{
refine cF (fun r=>r.pv) h mix Tryz.func15 fun r h=>?_
unfold Zha at h
refine Zf ?_
refine rg ?_
refine rg ?_
refine aC h ZkC fun r1 h=>?_
refine ZF (M:=([(⟨1,(⟨#[]⟩:ByteArray),(⟨#[]⟩:ByteArray),r1,(⟨0,(⟨#[]⟩:ByteArray)⟩:Title),p0,0,[]⟩:Change)]:List Change)) (f:=Change.cs) rfl rfl rfl rfl (Nat.le_of_ble_eq_true rfl) rfl (Zf ?_)
refine aC h (Zdt _ _) fun r2 h=>?_
refine rg ?_
cases h
exact rQ}
def Ziq (p0:State) (p1:SrcF) (p2:Int):Option (State×SrcF):=ZE Zaq (fun f7 ((x73,x74,x75,x76,x77,x78,x79,x80,x81,x82,x83,x84):Int×(List Int)×Int×Int×Int×Int×(List Stored)×(List Stored)×(List Proposal)×Int×(List Watch)×(List Last))=>if (decide (0<x73)) then letk (fun (x102:List Int) (x103:Int) (x104:Int) (x105:Int) (x106:Int) (x107:List Stored) (x108:List Stored) (x109:List Proposal) (x110:Int) (x111:List Watch) (x112:List Last)=>f7 ((w64 (x73-1)),x102,x103,x104,x105,x106,x107,x108,x109,x110,x111,x112)) fun k8=>(Zfx (⟨x74,x75,x76⟩:SrcF) x78).bind fun r113=>(Zay (⟨x77,x78,x79,x80,x81,x82,x83,x84⟩:State) r113.1).bind fun r114=>if (decide (r114.2=0)) then k8 r113.2.l r113.2.pos r113.2.seed r114.1.seq r114.1.clock r114.1.pages r114.1.gone r114.1.proposals r114.1.proposed r114.1.watches r114.1.lasts else k8 r113.2.l r113.2.pos r113.2.seed x77 x78 x79 x80 x81 x82 x83 x84 else (some ((⟨x77,x78,x79,x80,x81,x82,x83,x84⟩:State),(⟨x74,x75,x76⟩:SrcF)):Option (State×SrcF))) (p2,p1.l,p1.pos,p1.seed,p0.seq,p0.clock,p0.pages,p0.gone,p0.proposals,p0.proposed,p0.watches,p0.lasts)
theorem ZrH (p0:State) (p1:SrcF) (p2:Int) (r:State×SrcF) (h:Ziq p0 p1 p2=some r):Contract Tryz.prog 30 [p0.pv,.ptr 1 (0,1) 0,.int .i64 p2] (some (1,p1.cs)) (r.1.pv) (r.2).cs:=by{
refine Za4 (R:=fun r=>r.1.pv) (O:=fun r=>(r.2).cs) h mix Tryz.func30 (by kernel_rfl) rfl (by kernel_rfl) fun r h=>?_
unfold Ziq at h
refine Zf ?_
refine rg ?_
refine bl ?_
refine Zk h fun f7 mf7 hf7 h=>?_
refine Zi (α:=Nat×(Int×(List Int)×Int×Int×Int×Int×(List Stored)×(List Stored)×(List Proposal)×Int×(List Watch)×(List Last))) (fun a _=>mkS [(1,.ptr 1 (0,1) 0),(2,.int .i64 a.2.1),(3,.ptr 3 (1,3) 0),(6,.ptr 6 (1,6) 0)] [(1,some ((0,1),.box [.sl (List.map csI a.2.2.1),.int .i64 a.2.2.2.1,.int .u64 a.2.2.2.2.1])),(3,some ((1,3),.box [.int .i64 a.2.2.2.2.2.1,.int .i64 a.2.2.2.2.2.2.1,.sl (List.map Stored.cs a.2.2.2.2.2.2.2.1),.sl (List.map Stored.cs a.2.2.2.2.2.2.2.2.1),.sl (List.map Proposal.cs a.2.2.2.2.2.2.2.2.2.1),.int .i64 a.2.2.2.2.2.2.2.2.2.2.1,.sl (List.map Watch.cs a.2.2.2.2.2.2.2.2.2.2.2.1),.sl (List.map Last.cs a.2.2.2.2.2.2.2.2.2.2.2.2)])),(6,some ((1,6),.box [.int .i64 0,.int .i64 0,.nil,.nil,.nil,.int .i64 0,.nil,.nil]))] 2) (fun a=>ZE a.1 f7 a.2=some r) (fun a=>a.1) (mf7,p2,p1.l,p1.pos,p1.seed,p0.seq,p0.clock,p0.pages,p0.gone,p0.proposals,p0.proposed,p0.watches,p0.lasts) 2 h (sR [(3,1,0),(6,1,1)]) (fun a _ h=>?_)
obtain ⟨mf7,x73,x74,x75,x76,x77,x78,x79,x80,x81,x82,x83,x84⟩:=a
obtain ⟨mf7,rfl,h⟩:=Zl hf7 h
dsimp only at h ⊢
refine Zf ?_
refine rg ?_
refine cS h rfl (fun h=>?_) fun h=>?_
refine Zag h fun k8 hk8 h=>?_
refine Zax (α:=(List Int)×Int×Int×Int×Int×(List Stored)×(List Stored)×(List Proposal)×Int×(List Watch)×(List Last)) (fun a _=>mkS [(1,.ptr 1 (0,1) 0),(2,.int .i64 x73),(3,.ptr 3 (1,3) 0),(6,.ptr 6 (1,6) 0)] [(1,some ((0,1),.box [.sl (List.map csI a.1),.int .i64 a.2.1,.int .u64 a.2.2.1])),(3,some ((1,3),.box [.int .i64 a.2.2.2.1,.int .i64 a.2.2.2.2.1,.sl (List.map Stored.cs a.2.2.2.2.2.1),.sl (List.map Stored.cs a.2.2.2.2.2.2.1),.sl (List.map Proposal.cs a.2.2.2.2.2.2.2.1),.int .i64 a.2.2.2.2.2.2.2.2.1,.sl (List.map Watch.cs a.2.2.2.2.2.2.2.2.2.1),.sl (List.map Last.cs a.2.2.2.2.2.2.2.2.2.2)])),(6,some ((1,6),.box [.int .i64 0,.int .i64 0,.nil,.nil,.nil,.int .i64 0,.nil,.nil]))] 2) (fun a=>k8 a.1 a.2.1 a.2.2.1 a.2.2.2.1 a.2.2.2.2.1 a.2.2.2.2.2.1 a.2.2.2.2.2.2.1 a.2.2.2.2.2.2.2.1 a.2.2.2.2.2.2.2.2.1 a.2.2.2.2.2.2.2.2.2.1 a.2.2.2.2.2.2.2.2.2.2=some r) (Zf ?_) (fun a _ h=>?_)
refine bl ?_
refine rg ?_
refine aO h (ZoI _ _) fun r113 h=>?_
refine aC h (Zdt _ _) fun r114 h=>?_
refine rg ?_
refine cS h rfl (fun h=>?_) fun h=>?_
refine rg ?_
exact jn (r113.2.l,r113.2.pos,r113.2.seed,r114.1.seq,r114.1.clock,r114.1.pages,r114.1.gone,r114.1.proposals,r114.1.proposed,r114.1.watches,r114.1.lasts) h (sR [(3,1,3),(6,1,6)])
exact jn (r113.2.l,r113.2.pos,r113.2.seed,x77,x78,x79,x80,x81,x82,x83,x84) h (sR [(3,1,3),(6,1,6)])
obtain ⟨x102,x103,x104,x105,x106,x107,x108,x109,x110,x111,x112⟩:=a
subst hk8
dsimp only at h ⊢
refine Zf ?_
refine rg ?_
exact rn (mf7,(w64 (x73-1)),x102,x103,x104,x105,x106,x107,x108,x109,x110,x111,x112) h (sR [(3,1,3),(6,1,6)])
refine rg ?_
cases h
exact Zgh rfl rfl rfl rfl rfl}
def Zir (p0:List Int):Option State:=(Zi2 p0).bind fun r1=>(ZgI r1).bind fun r2=>(Zha r2.1).bind fun r3=>(Zz r2.2 5).bind fun r4=>ZE Zaq (fun f7 ((x101,x102,x103,x104,x105,x106,x107,x108,x109,x110,x111,x112):Int×Int×Int×(List Stored)×(List Stored)×(List Proposal)×Int×(List Watch)×(List Last)×(List Int)×Int×Int)=>if (decide (x101<(w64 (3+r4.1)))) then letk (fun (x139:Int) (x140:Int) (x141:List Stored) (x142:List Stored) (x143:List Proposal) (x144:Int) (x145:List Watch) (x146:List Last) (x147:List Int) (x148:Int) (x149:Int)=>f7 ((w64 (x101+1)),x139,x140,x141,x142,x143,x144,x145,x146,x147,x148,x149)) fun k8=>(ZhG (⟨x110,x111,x112⟩:SrcF)).bind fun r150=>(Zfi).bind fun r151=>(atI r151 x101).bind fun e152=>(ZhZ r150.2).bind fun r153=>(Zay (⟨x102,x103,x104,x105,x106,x107,x108,x109⟩:State) [(⟨1,r150.1,(⟨#[]⟩:ByteArray),e152,(⟨0,(⟨#[]⟩:ByteArray)⟩:Title),r153.1,0,[]⟩:Change)]).bind fun r154=>if (decide (r154.2=0)) then k8 r154.1.seq r154.1.clock r154.1.pages r154.1.gone r154.1.proposals r154.1.proposed r154.1.watches r154.1.lasts r153.2.l r153.2.pos r153.2.seed else k8 x102 x103 x104 x105 x106 x107 x108 x109 r153.2.l r153.2.pos r153.2.seed else (Zz (⟨x110,x111,x112⟩:SrcF) 7).bind fun r155=>(Ziq (⟨x102,x103,x104,x105,x106,x107,x108,x109⟩:State) r155.2 r155.1).bind fun r156=>(some r156.1:Option State)) (0,r3.seq,r3.clock,r3.pages,r3.gone,r3.proposals,r3.proposed,r3.watches,r3.lasts,r4.2.l,r4.2.pos,r4.2.seed)
theorem ZrI (p0:List Int) (r:State) (h:Zir p0=some r):Zb Tryz.prog 10 [.sl (List.map csI p0)] (r.pv):=by{
refine cF (fun r=>r.pv) h mix Tryz.func10 fun r h=>?_
unfold Zir at h
refine Zf ?_
refine rg ?_
refine rg ?_
refine aN h (Zn2 _) fun r1 h=>?_
refine rg ?_
refine aO h (ZpZ _) fun r2 h=>?_
refine aC h (Zmd _) fun r3 h=>?_
refine rg ?_
refine aO h (ZB _ _) fun r4 h=>?_
refine rg ?_
refine bl ?_
refine Zk h fun f7 mf7 hf7 h=>?_
refine Zi (α:=Nat×(Int×Int×Int×(List Stored)×(List Stored)×(List Proposal)×Int×(List Watch)×(List Last)×(List Int)×Int×Int)) (fun a _=>mkS [(2,.ptr 2 (1,2) 0),(3,.ptr 10 (1,10) 0),(4,.ptr 4 (1,4) 0),(5,.int .i64 (w64 (3+r4.1))),(6,.int .i64 a.2.1)] [(2,some ((1,2),.box [.int .i64 0,.int .i64 0,.nil,.nil,.nil,.int .i64 0,.nil,.nil])),(4,some ((1,4),.box [.int .i64 a.2.2.1,.int .i64 a.2.2.2.1,.sl (List.map Stored.cs a.2.2.2.2.1),.sl (List.map Stored.cs a.2.2.2.2.2.1),.sl (List.map Proposal.cs a.2.2.2.2.2.2.1),.int .i64 a.2.2.2.2.2.2.2.1,.sl (List.map Watch.cs a.2.2.2.2.2.2.2.2.1),.sl (List.map Last.cs a.2.2.2.2.2.2.2.2.2.1)])),(10,some ((1,10),.box [.sl (List.map csI a.2.2.2.2.2.2.2.2.2.2.1),.int .i64 a.2.2.2.2.2.2.2.2.2.2.2.1,.int .u64 a.2.2.2.2.2.2.2.2.2.2.2.2]))] 2) (fun a=>ZE a.1 f7 a.2=some r) (fun a=>a.1) (mf7,0,r3.seq,r3.clock,r3.pages,r3.gone,r3.proposals,r3.proposed,r3.watches,r3.lasts,r4.2.l,r4.2.pos,r4.2.seed) 2 h (sR [(2,1,0),(4,3,3),(10,2,1)]) (fun a _ h=>?_)
obtain ⟨mf7,x101,x102,x103,x104,x105,x106,x107,x108,x109,x110,x111,x112⟩:=a
obtain ⟨mf7,rfl,h⟩:=Zl hf7 h
dsimp only at h ⊢
refine Zf ?_
refine rg ?_
refine cS h rfl (fun h=>?_) fun h=>?_
refine Zag h fun k8 hk8 h=>?_
refine Zax (α:=Int×Int×(List Stored)×(List Stored)×(List Proposal)×Int×(List Watch)×(List Last)×(List Int)×Int×Int) (fun a _=>mkS [(2,.ptr 2 (1,2) 0),(3,.ptr 10 (1,10) 0),(4,.ptr 4 (1,4) 0),(5,.int .i64 (w64 (3+r4.1))),(6,.int .i64 x101)] [(2,some ((1,2),.box [.int .i64 0,.int .i64 0,.nil,.nil,.nil,.int .i64 0,.nil,.nil])),(4,some ((1,4),.box [.int .i64 a.1,.int .i64 a.2.1,.sl (List.map Stored.cs a.2.2.1),.sl (List.map Stored.cs a.2.2.2.1),.sl (List.map Proposal.cs a.2.2.2.2.1),.int .i64 a.2.2.2.2.2.1,.sl (List.map Watch.cs a.2.2.2.2.2.2.1),.sl (List.map Last.cs a.2.2.2.2.2.2.2.1)])),(10,some ((1,10),.box [.sl (List.map csI a.2.2.2.2.2.2.2.2.1),.int .i64 a.2.2.2.2.2.2.2.2.2.1,.int .u64 a.2.2.2.2.2.2.2.2.2.2]))] 2) (fun a=>k8 a.1 a.2.1 a.2.2.1 a.2.2.2.1 a.2.2.2.2.1 a.2.2.2.2.2.1 a.2.2.2.2.2.2.1 a.2.2.2.2.2.2.2.1 a.2.2.2.2.2.2.2.2.1 a.2.2.2.2.2.2.2.2.2.1 a.2.2.2.2.2.2.2.2.2.2=some r) (Zf ?_) (fun a _ h=>?_)
refine bl ?_
refine rg ?_
refine aO h (ZkD _) fun r150 h=>?_
refine aC h ZhF fun r151 h=>?_
refine aI Title.cs h fun e152 h=>?_
refine aO h (Zlc _) fun r153 h=>?_
refine ZF (M:=([(⟨1,r150.1,(⟨#[]⟩:ByteArray),e152,(⟨0,(⟨#[]⟩:ByteArray)⟩:Title),r153.1,0,[]⟩:Change)]:List Change)) (f:=Change.cs) rfl rfl rfl rfl (Nat.le_of_ble_eq_true rfl) rfl (Zf ?_)
refine aC h (Zdt _ _) fun r154 h=>?_
refine rg ?_
refine cS h rfl (fun h=>?_) fun h=>?_
refine rg ?_
exact jn (r154.1.seq,r154.1.clock,r154.1.pages,r154.1.gone,r154.1.proposals,r154.1.proposed,r154.1.watches,r154.1.lasts,r153.2.l,r153.2.pos,r153.2.seed) h (sR [(2,1,2),(4,1,4),(10,1,10)])
exact jn (x102,x103,x104,x105,x106,x107,x108,x109,r153.2.l,r153.2.pos,r153.2.seed) h (sR [(2,1,2),(4,1,4),(10,1,10)])
obtain ⟨x139,x140,x141,x142,x143,x144,x145,x146,x147,x148,x149⟩:=a
subst hk8
dsimp only at h ⊢
refine Zf ?_
refine rg ?_
exact rn (mf7,(w64 (x101+1)),x139,x140,x141,x142,x143,x144,x145,x146,x147,x148,x149) h (sR [(2,1,2),(4,1,4),(10,1,10)])
refine rg ?_
refine aO h (ZB _ _) fun r155 h=>?_
obtain ⟨r156,h66,h⟩:=bnd h
refine ZtS (pre:=[_]) (pre':=[_]) (ZrH _ _ _ _ h66) rfl rfl rfl rfl rfl rfl (Zf ?_)
cases h
exact rQ}
theorem Zjs {α:Type} (l:List α):([]:List α)++l=l:=rfl
theorem Zcj {α:Type} {l:List α} {n:Nat} {e:α} (h:l[n]? = some e):l.take n ++ [e]=l.take (n+1):=by
 rw [List.take_add_one,h]
 rfl
theorem Zfz {α:Type} (l:List α) {a:Int} {n:Nat} (ha:a=n) (h:n<=l.length):Zgj l a (l.length:Int)=some (l.drop n):=by
 subst ha
 exact Ztj h
theorem Zdz (l:List Stored) (p:Stored) (hl:l.length<=1000000):Tot (Zb4 l p) fun r=>∃ n,n<=l.length/\r=l.take n++p::l.drop n/\(∀ y ∈ l.take n,tlt y.title p.title)/\∀ y,l[n]? = some y->¬ tlt y.title p.title:=by{
unfold Zb4
refine Zr (fun a:Int×List Stored=>∃ n:Nat,a.1=n/\n<=l.length/\a.2=l.take n/\∀ y ∈ l.take n,tlt y.title p.title) (fun a=>((l.length:Int)-a.1).toNat) ⟨0,rfl,Nat.zero_le _,rfl,fun y h=>by simp at h⟩ (by first | omega | (dsimp only;omega)) ?_
rintro ⟨i,out⟩ rec ⟨n,hi,hn,ho,hlt⟩ ih
dsimp only at hi ho
subst hi ho
refine Zw (fun k=>(∀ e,l[n]? = some e->tlt e.title p.title->Tot (k true) fun r=>∃ n,n<=l.length/\r=l.take n++p::l.drop n/\(∀ y ∈ l.take n,tlt y.title p.title)/\∀ y,l[n]? = some y->¬ tlt y.title p.title)/\
 ((∀ y,l[n]? = some y->¬ tlt y.title p.title)->Tot (k false) fun r=>∃ n,n<=l.length/\r=l.take n++p::l.drop n/\(∀ y ∈ l.take n,tlt y.title p.title)/\∀ y,l[n]? = some y->¬ tlt y.title p.title)) ⟨fun e he hep=>?_,fun hne=>?_⟩ fun k hk=>?_
have hln:=(List.getElem?_eq_some_iff.1 he).1
refine ZH rfl ?_
refine Zq (by omega) (by omega) fun e' _ hg'=>?_
rw [Int.toNat_natCast,he] at hg'
injection hg' with hg'
subst hg'
refine ZC 2000000 (by simp;omega) (by decide) (by decide) ?_
rw [Zcj he,Zn]
refine ih _ ⟨n+1,by dsimp only;omega,hln,rfl,fun y hy=>?_⟩ (by first | omega | (dsimp only;omega))
rw [<- Zcj he] at hy
rcases List.mem_append.1 hy with hy | hy
exact hlt y hy
simp at hy
rw [hy]
exact hep
refine Zs rfl ?_
refine ZC 2000000 (by simp;omega) (by decide) (by decide) ?_
refine Za (Zfz l rfl hn) ?_
refine ZC 2000000 (by simp;omega) (by decide) (by decide) ?_
exact Zc ⟨n,hn,by simp,hlt,hne⟩
refine Zd (fun h=>?_) fun h=>hk.2 fun y hy=>?_
refine Zq (by omega) h fun e _ hg=>?_
rw [Int.toNat_natCast] at hg
refine Za (v:=Title.cmp e.title p.title) rfl ?_
by_cases hc:Title.cmp e.title p.title<0
rw [decide_eq_true hc]
exact hk.1 e hg hc
rw [decide_eq_false hc]
refine hk.2 fun y hy=>?_
rw [hg] at hy
injection hy with hy
rw [<- hy]
exact hc
have:=(List.getElem?_eq_some_iff.1 hy).1
omega}
theorem ZgK (l:List Stored) (n:Nat) (hn:n<l.length) (hl:l.length<=1000000):Zcu l n=some (l.take n++l.drop (n+1)):=by{
refine Zad ?_
unfold Zcu
refine Za (Zxn (Nat.le_of_lt hn)) ?_
refine ZC 2000000 (by simp;omega) (by decide) (by decide) ?_
rw [Zn]
refine Za (Zfz l (n:=n+1) (by omega) hn) ?_
refine ZC 2000000 (by simp;omega) (by decide) (by decide) ?_
exact Zc rfl}
theorem Zwm (l:List Proposal) (t:Title) (hl:l.length<=1000000):Tot (Zhd l t) fun r=>r.Sublist l:=by{
unfold Zhd
refine Zr (fun a:Int×List Proposal=>∃ n:Nat,a.1=n/\n<=l.length/\a.2.Sublist (l.take n)) (fun a=>((l.length:Int)-a.1).toNat) ⟨0,rfl,Nat.zero_le _,List.Sublist.refl _⟩ (by first | omega | (dsimp only;omega)) ?_
rintro ⟨i,out⟩ rec ⟨n,hi,hn,ho⟩ ih
dsimp only at hi ho
subst hi
have hlen:=ho.length_le
rw [List.length_take] at hlen
refine Zd (fun h=>?_) fun h=>?_
refine Zap ?_
refine Zq (by omega) h fun e _ hg=>?_
rw [Int.toNat_natCast] at hg
rw [Zn]
refine Zak (fun _=>?_) fun _=>?_
refine Zq (by omega) h fun e' _ hg'=>?_
rw [Int.toNat_natCast,hg] at hg'
injection hg' with hg'
subst hg'
refine ZC 2000000 (by simp;omega) (by decide) (by decide) ?_
refine ih _ ⟨n+1,by dsimp only;omega,by omega,?_⟩ (by first | omega | (dsimp only;omega))
dsimp only
rw [<- Zcj hg]
exact List.Sublist.append ho (List.Sublist.refl _)
refine ih _ ⟨n+1,by dsimp only;omega,by omega,?_⟩ (by first | omega | (dsimp only;omega))
dsimp only
rw [<- Zcj hg]
exact ho.trans (List.sublist_append_left ..)
refine Zc (ho.trans (List.take_sublist ..))}
theorem ZtA (s:State) (c:Change) (hl:s.proposals.length<=1000000):Tot (ZfS s c) fun r=>r.2=0->∃ l,l.Sublist s.proposals/\r.1=⟨s.seq,s.clock,s.pages,s.gone,l,s.proposed,s.watches,s.lasts⟩:=by{
unfold ZfS
generalize hL:s.proposals=l at hl ⊢
refine Zr (fun a:Int×List Proposal=>∃ n:Nat,a.1=n/\n<=l.length/\a.2.Sublist (l.take n)) (fun a=>((l.length:Int)-a.1).toNat) ⟨0,rfl,Nat.zero_le _,List.Sublist.refl _⟩ (by first | omega | (dsimp only;omega)) ?_
rintro ⟨i,out⟩ rec ⟨n,hi,hn,ho⟩ ih
dsimp only at hi ho
subst hi
have hlen:=ho.length_le
rw [List.length_take] at hlen
refine Zd (fun h=>?_) fun h=>?_
refine Zap ?_
refine Zq (by omega) h fun e _ hg=>?_
rw [Int.toNat_natCast] at hg
rw [Zn]
refine Zak (fun _=>?_) fun _=>?_
refine Zq (by omega) h fun e' _ hg'=>?_
rw [Int.toNat_natCast,hg] at hg'
injection hg' with hg'
subst hg'
refine ZC 2000000 (by simp;omega) (by decide) (by decide) ?_
refine ih _ ⟨n+1,by dsimp only;omega,by omega,?_⟩ (by first | omega | (dsimp only;omega))
dsimp only
rw [<- Zcj hg]
exact List.Sublist.append ho (List.Sublist.refl _)
refine ih _ ⟨n+1,by dsimp only;omega,by omega,?_⟩ (by first | omega | (dsimp only;omega))
dsimp only
rw [<- Zcj hg]
exact ho.trans (List.sublist_append_left ..)
refine Zd (fun _=>Zc (fun h=>by cases h)) fun _=>Zc fun _=>⟨out,?_,rfl⟩
exact ho.trans (List.take_sublist ..)}
theorem Zmr (s:State) (t:Title) (hl:s.gone.length<=1000000):Tot (ZdI s t) fun r=>r = -1\/∃ (n:Nat) (p:Stored),r=n/\s.gone[n]? = some p/\p.title=t:=by{
unfold ZdI
refine Zr (fun i:Int=>-1<=i/\i<(s.gone.length:Int)) (fun i=>(i+1).toNat) ⟨?_,?_⟩ ?_ ?_
rw [Zn];omega
rw [Zn];omega
rw [Zn];omega
rintro i rec ⟨h3,h4⟩ ih
refine Zd (fun hi=>?_) fun hi=>Zc (.inl rfl)
refine Zq hi h4 fun e he hg=>?_
refine Zd (fun c=>Zc (.inr ⟨i.toNat,e,by omega,hg,c⟩)) fun c=>?_
rw [Zn]
exact ih _ ⟨by omega,by omega⟩ (by omega)}
theorem Zxy (n:Int):Tot (ZbT n) fun r=>r.size<=8:=by{
unfold ZbT
refine Zap ?_
have fin:∀ e ∈ ([(⟨#[]⟩:ByteArray),(⟨#[84,97,108,107]⟩:ByteArray),(⟨#[85,115,101,114]⟩:ByteArray),(⟨#[84,101,109,112,108,97,116,101]⟩:ByteArray),(⟨#[67,97,116,101,103,111,114,121]⟩:ByteArray),(⟨#[80,114,111,106,101,99,116]⟩:ByteArray)]:List ByteArray),e.size<=8:=by decide
refine Zd (fun _=>ZH rfl (Zc (by decide))) fun h=>?_
by_cases hc:((([(⟨#[]⟩:ByteArray),(⟨#[84,97,108,107]⟩:ByteArray),(⟨#[85,115,101,114]⟩:ByteArray),(⟨#[84,101,109,112,108,97,116,101]⟩:ByteArray),(⟨#[67,97,116,101,103,111,114,121]⟩:ByteArray),(⟨#[80,114,111,106,101,99,116]⟩:ByteArray)]:List ByteArray).length:Int)<=n)
rw [decide_eq_true hc]
exact ZH rfl (Zc (by decide))
rw [decide_eq_false hc]
refine Zs rfl ?_
refine Zq (by omega) (by omega) fun e he _=>Zc (fin e he)}
theorem Zsa (t:Title) (h:t.valid=true):Tot (ZdQ t) fun r=>r.size<=8192:=by{
have hn:t.name.size<=100:=by
 unfold Title.valid at h
 simp only [Bool.and_eq_true,decide_eq_true_eq] at h
 exact h.1.1.1.1.2
have f:Tot (ZgM t) fun r=>r.size<=200:=by
 unfold ZgM
 refine Za (v:=true) (by unfold Za9;rw [h]) ?_
 refine Zs rfl ?_
 refine Zd (fun _=>Zc (by omega)) fun _=>?_
 refine Zh (Zxy _) fun r hr=>?_
 refine ZfX (by show r.size+1<=_;omega) fun e1=>?_
 have e1':(r++(⟨#[58]⟩:ByteArray)).size=r.size+1:=e1
 refine ZfX (by rw [e1'];omega) fun e2=>Zc ?_
 rw [e2,e1']
 omega
unfold ZdQ
refine Zh f fun r hr=>?_
have e0:(⟨#[35,82,69,68,73,82,69,67,84,32,91,91]⟩:ByteArray).size=12:=rfl
refine ZfX (by rw [e0];omega) fun e1=>?_
rw [e0] at e1
refine ZfX (by rw [e1];show 12+r.size+2<=_;omega) fun e2=>Zc ?_
rw [e2,e1]
show 12+r.size+2<=_
omega}
structure ImpOK (l:List Revision):Prop where
 len1:1<=l.length
 len2:l.length<=40
 num:∀ (i:Nat) r,l[i]? = some r->r.number=(i:Int)+1
 user:∀ r ∈ l,Zc7 r.user=true/\0<=r.minute
 mono:l.Pairwise fun a b=>a.minute<=b.minute
structure CV (c:Change):Prop where
 kind1:1<=c.kind
 kind2:c.kind<=10
 user:Zc7 c.user=true
 title:c.kind≠6->c.kind≠10->c.title.valid=true
 watch:c.kind=7\/c.kind=8->c.user≠⟨#[]⟩
 dest:c.kind=4->c.to.valid=true
 tick:c.kind=6->1<=c.n
 prop:c.kind=9->0<=c.n/\c.n<=40
 imp:c.kind=5->ImpOK c.history
 text:c.text.size<=8192
 note:c.note.size<=200
 hist:∀ r ∈ c.history,r.text.size<=8192/\r.note.size<=200
theorem Zy1 (c:Change):Tot (ZiL c) fun b=>b=true->1<=c.kind/\c.kind<=10:=by{
unfold ZiL
refine Zw (fun k=>∀ b,Tot (k b) fun b=>b=true->1<=c.kind/\c.kind<=10) (fun x1=>?_) fun k hk=>?_
refine Zw (fun k=>∀ b,Tot (k b) fun b=>b=true->1<=c.kind/\c.kind<=10) (fun x2=>?_) fun k hk=>?_
refine Zw (fun k=>∀ b,Tot (k b) fun b=>b=true->1<=c.kind/\c.kind<=10) (fun x3=>?_) fun k hk=>?_
refine Zw (fun k=>(Tot (k true) fun b=>b=true->1<=c.kind/\c.kind<=10)/\((1<=c.kind/\c.kind<=10)->Tot (k false) fun b=>b=true->1<=c.kind/\c.kind<=10)) ⟨ZH rfl (Zc fun h=>by cases h),fun hr=>?_⟩ fun k hk=>?_
refine Zs rfl ?_
refine Zw (fun k=>∀ b,Tot (k b) fun b=>b=true->1<=c.kind/\c.kind<=10) (fun x5=>?_) fun k hk=>?_
refine Zbj (fun _=>Zc fun _=>hr) fun _=>?_
refine Zw (fun k=>∀ b,Tot (k b) fun b=>b=true->1<=c.kind/\c.kind<=10) (fun x6=>?_) fun k hk=>?_
·refine Zbj (fun _=>Zc fun _=>hr) fun _=>?_
 refine Zw (fun k=>∀ b,Tot (k b) fun b=>b=true->1<=c.kind/\c.kind<=10) (fun x7=>Zc fun _=>hr) fun k hk=>?_
 repeat' (first | exact hk _ | refine Zbj (fun _=>?_) fun _=>?_)
·repeat' (first | exact hk _ | refine Zbj (fun _=>?_) fun _=>?_)
·repeat' (first | exact hk _ | refine Zbj (fun _=>?_) fun _=>?_)
refine Zd (fun _=>hk.1) fun h1=>?_
by_cases h2:10<c.kind
rw [decide_eq_true h2];exact hk.1
rw [decide_eq_false h2];exact hk.2 ⟨by omega,by omega⟩
·repeat' (first | exact hk _ | refine Zbj (fun _=>?_) fun _=>?_)
·repeat' (first | exact hk _ | refine Zbj (fun _=>?_) fun _=>?_)
·repeat' (first | exact hk _ | refine Zbj (fun _=>?_) fun _=>?_)}
theorem Zy2 {α:Type} {R:α->α->Prop} (tr:∀ a b c,R a b->R b c->R a c) {l:List α} (h:∀ (j:Nat) a b,l[j]? = some a->l[j+1]? = some b->R a b):l.Pairwise R:=by{
rw [List.pairwise_iff_getElem]
have key:∀ (d i:Nat) (h1:i<l.length) (h2:i+d+1<l.length),R l[i] l[i+d+1]:=fun d=>by
 induction d with
 | zero=>exact fun i h1 h2=>h i _ _ (List.getElem?_eq_getElem h1) (List.getElem?_eq_getElem h2)
 | succ d ih=>exact fun i h1 h2=>tr _ _ _ (ih i h1 (by omega)) (h (i+d+1) _ _ (List.getElem?_eq_getElem (by omega)) (List.getElem?_eq_getElem h2))
intro i j hi hj hij
have:=key (j-i-1) i hi (by omega)
simpa [show i+(j-i-1)+1=j by omega] using this}
theorem Zz1 (l:List Revision):Tot (ZeI l) fun b=>b=true->ImpOK l:=by{
unfold ZeI
refine Zw (fun k=>(Tot (k true) fun b=>b=true->ImpOK l)/\((1<=l.length/\l.length<=40)->Tot (k false) fun b=>b=true->ImpOK l)) ⟨ZH rfl (Zc fun h=>by cases h),fun hl=>?_⟩ fun k hk=>?_
refine Zs rfl ?_
refine Zr (fun i:Int=>(0<=i/\i<=(l.length:Int))/\∀ (j:Nat) r,(j:Int)<i->l[j]? = some r->r.number=(j:Int)+1/\(Zc7 r.user=true/\0<=r.minute)/\∀ r',l[j-1]? = some r'->r'.minute<=r.minute) (fun i=>((l.length:Int)-i).toNat) ⟨⟨by omega,by omega⟩,fun j r h=>by omega⟩ (by first | omega | (dsimp only;omega)) ?_
rintro i rec ⟨⟨h3,h4⟩,h5⟩ ih
refine Zd (fun hi=>?_) fun hi=>Zc fun _=>?_
refine Zq h3 hi fun e he hg=>?_
have e1:w64 (i+1)=i+1:=Zn
have e2:w64 (i-1)=i-1:=Zn
refine Zw (fun k=>(Tot (k true) fun b=>b=true->ImpOK l)/\((e.number=i+1/\(Zc7 e.user=true/\0<=e.minute)/\∀ r',l[i.toNat-1]? = some r'->r'.minute<=e.minute)->Tot (k false) fun b=>b=true->ImpOK l)) ⟨ZH rfl (Zc fun h=>by cases h),fun hf=>?_⟩ fun k hk=>?_
refine Zs rfl ?_
rw [e1]
refine ih _ ⟨⟨by omega,by omega⟩,fun j r hj hr=>?_⟩ (by omega)
by_cases hji:(j:Int)<i
exact h5 j r hji hr
obtain rfl:j=i.toNat:=by omega
rw [hg] at hr
injection hr with hr
subst hr
exact ⟨by rw [hf.1];omega,hf.2⟩
rw [e1]
refine Zak (fun _=>hk.1) fun c1=>?_
refine Zak (fun _=>hk.1) fun c2=>?_
refine Za (Zjc _) ?_
refine Zbj (fun _=>hk.1) fun c3=>?_
refine Zd (fun _=>hk.1) fun c4=>?_
refine Zd (fun _=>hk.1) fun c5=>?_
have c3':Zc7 e.user=true:=by simpa using c3
refine Zd (fun h0=>?_) fun h0=>?_
rw [e2]
refine Zq (by omega) (by omega) fun e' _ hg'=>?_
by_cases c6:e.minute<e'.minute
rw [decide_eq_true c6];exact hk.1
rw [decide_eq_false c6]
refine hk.2 ⟨c1,⟨c3',by omega⟩,fun r' hr'=>?_⟩
rw [show (i-1).toNat=i.toNat-1 by omega,hr'] at hg'
injection hg' with hg'
rw [hg']
omega
refine hk.2 ⟨c1,⟨c3',by omega⟩,fun r' hr'=>?_⟩
have:i=0:=by omega
subst this
have hg0:l[0]? = some e:=hg
rw [show (0:Int).toNat-1=0 from rfl,hg0] at hr'
injection hr' with hr'
rw [hr']
omega
refine ⟨hl.1,hl.2,fun j r hr=>(h5 j r ?_ hr).1,fun r hr=>?_,Zy2 (R:=fun a b:Revision=>a.minute<=b.minute) (fun a b c h1 h2=>Int.le_trans h1 h2) fun j a b ha hb=>?_⟩
have:=(List.getElem?_eq_some_iff.1 hr).1
omega
obtain ⟨j,hj⟩:=List.getElem?_of_mem hr
have:=(List.getElem?_eq_some_iff.1 hj).1
exact (h5 j r (by omega) hj).2.1
have:=(List.getElem?_eq_some_iff.1 hb).1
exact (h5 (j+1) b (by omega) hb).2.2 a ha
refine Zd (fun _=>hk.1) fun h1=>?_
by_cases h2:40<(l.length:Int)
rw [decide_eq_true h2];exact hk.1
rw [decide_eq_false h2];exact hk.2 ⟨by omega,by omega⟩}
structure WV (c:Change):Prop where
 user:Zc7 c.user=true
 title:c.kind≠6->c.kind≠10->c.title.valid=true
 watch:c.kind=7\/c.kind=8->c.user≠⟨#[]⟩
 dest:c.kind=4->c.to.valid=true
 tick:c.kind=6->1<=c.n
 prop:c.kind=9->0<=c.n/\c.n<=40
 imp:c.kind=5->ImpOK c.history
theorem ZvA (c:Change):Tot (Zes c) fun b=>b=true->WV c:=by{
unfold Zes
refine Zw (fun k=>(Tot (k true) fun b=>b=true->WV c)/\(Zc7 c.user=true->(c.kind≠6->c.kind≠10->c.title.valid=true)->Tot (k false) fun b=>b=true->WV c)) ⟨ZH rfl (Zc fun h=>by cases h),fun hu ht=>?_⟩ fun k hk=>?_
refine Zs rfl ?_
refine Zw (fun k=>(c.kind=7\/c.kind=8->Tot (k true) fun b=>b=true->WV c)/\(¬ (c.kind=7\/c.kind=8)->Tot (k false) fun b=>b=true->WV c)) ⟨fun hw=>?_,fun hw=>?_⟩ fun k hk=>?_
refine ZH rfl (Zc fun h=>?_)
have h':c.user≠⟨#[]⟩:=by simpa using h
exact ⟨hu,ht,fun _=>h',fun e=>by omega,fun e=>by omega,fun e=>by omega,fun e=>by omega⟩
refine Zs rfl ?_
refine Zd (fun h4=>?_) fun h4=>?_
refine Zw (fun k=>(c.to.valid=true->∀ b,Tot (k b) fun b=>b=true->WV c)/\Tot (k false) fun b=>b=true->WV c) ⟨fun hv b=>Zc fun _=>⟨hu,ht,fun e=>absurd e hw,fun _=>hv,fun e=>by omega,fun e=>by omega,fun e=>by omega⟩,Zc fun h=>by cases h⟩ fun k hk=>?_
refine Za (v:=c.to.valid) rfl ?_
refine Zbj (fun hv=>?_) fun _=>hk.2
exact Zd (fun _=>hk.1 hv _) fun _=>hk.1 hv _
refine Zd (fun h6=>?_) fun h6=>?_
refine Zw (fun k=>(1<=c.n->∀ b,Tot (k b) fun b=>b=true->WV c)/\Tot (k false) fun b=>b=true->WV c) ⟨fun hv b=>Zc fun _=>⟨hu,ht,fun e=>absurd e hw,fun e=>by omega,fun _=>hv,fun e=>by omega,fun e=>by omega⟩,Zc fun h=>by cases h⟩ fun k hk=>?_
exact Zd (fun h=>hk.1 h _) fun _=>hk.2
refine Zd (fun h9=>?_) fun h9=>?_
refine Zw (fun k=>(0<=c.n->Tot (k (decide (c.n<=40))) fun b=>b=true->WV c)/\Tot (k false) fun b=>b=true->WV c) ⟨fun hv=>Zc fun h=>⟨hu,ht,fun e=>absurd e hw,fun e=>by omega,fun e=>by omega,fun _=>⟨hv,of_decide_eq_true h⟩,fun e=>by omega⟩,Zc fun h=>by cases h⟩ fun k hk=>?_
exact Zd (fun h=>hk.1 h) fun _=>hk.2
refine Zd (fun h10=>?_) fun h10=>?_
refine Zw (fun k=>∀ b,Tot (k b) fun b=>b=true->WV c) (fun b=>Zc fun _=>⟨hu,ht,fun e=>absurd e hw,fun e=>by omega,fun e=>by omega,fun e=>by omega,fun e=>by omega⟩) fun k hk=>?_
exact Zd (fun h=>hk _) fun _=>hk _
refine Zd (fun h5=>?_) fun h5=>?_
refine Zh (Zz1 c.history) fun b hb=>Zc fun h=>?_
exact ⟨hu,ht,fun e=>absurd e hw,fun e=>by omega,fun e=>by omega,fun e=>by omega,fun _=>hb h⟩
exact Zc fun _=>⟨hu,ht,fun e=>absurd e hw,fun e=>by omega,fun e=>by omega,fun e=>by omega,fun e=>by omega⟩
refine Zd (fun h=>?_) fun h=>?_
rw [decide_eq_true h];exact hk.1 (.inl h)
by_cases h8:c.kind=8
rw [decide_eq_true h8];exact hk.1 (.inr h8)
rw [decide_eq_false h8];exact hk.2 (by omega)
have usr:(c.kind≠6->c.kind≠10->c.title.valid=true)->Tot ((Zb2 c.user).bind fun r=>k (!r)) fun b=>b=true->WV c:=fun ht=>by
 refine Za (Zjc _) ?_
 rcases Bool.eq_false_or_eq_true (Zc7 c.user) with hu | hu
 rw [hu];exact hk.2 hu ht
 rw [hu];exact hk.1
refine Zak (fun h6=>?_) fun h6=>usr fun a=>absurd h6 a
refine Zak (fun h10=>?_) fun h10=>usr fun _ a=>absurd h10 a
refine Za (v:=c.title.valid) rfl ?_
refine Zbj (fun _=>hk.1) fun hv=>usr fun _ _=>by simpa using hv}
theorem Zle (c:Change) (hl:c.history.length<=1000000):Tot (ZdU c) fun e=>e=0->CV c:=by{
unfold ZdU
refine Zh (Zy1 c) fun b hb=>?_
refine Zbj (fun _=>Zc fun h=>by cases h) fun hb'=>?_
refine Zh (ZvA c) fun b2 hb2=>?_
refine Zbj (fun _=>Zc fun h=>by cases h) fun hb2'=>?_
have f:=hb (by simpa using hb')
have w:=hb2 (by simpa using hb2')
refine Zw (fun k=>(Tot (k true) fun e=>e=0->CV c)/\(c.text.size<=8192->c.note.size<=200->Tot (k false) fun e=>e=0->CV c)) ⟨ZH rfl (Zc fun h=>by cases h),fun a1 a2=>?_⟩ fun k hk=>?_
refine Zs rfl ?_
refine Zr (fun i:Int=>(0<=i/\i<=(c.history.length:Int))/\∀ (j:Nat) r,(j:Int)<i->c.history[j]? = some r->r.text.size<=8192/\r.note.size<=200) (fun i=>((c.history.length:Int)-i).toNat) ⟨⟨by omega,by omega⟩,fun j r h=>by omega⟩ (by first | omega | (dsimp only;omega)) ?_
rintro i rec ⟨⟨h3,h4⟩,h5⟩ ih
refine Zd (fun hi=>?_) fun hi=>Zc fun _=>?_
have e1:w64 (i+1)=i+1:=Zn
refine Zw (fun k=>(Tot (k true) fun e=>e=0->CV c)/\((∀ e,c.history[i.toNat]? = some e->e.text.size<=8192/\e.note.size<=200)->Tot (k false) fun e=>e=0->CV c)) ⟨ZH rfl (Zc fun h=>by cases h),fun hf=>?_⟩ fun k hk=>?_
refine Zs rfl ?_
rw [e1]
refine ih _ ⟨⟨by omega,by omega⟩,fun j r hj hr=>?_⟩ (by omega)
by_cases hji:(j:Int)<i
exact h5 j r hji hr
obtain rfl:j=i.toNat:=by omega
exact hf r hr
refine Zq h3 hi fun e he hg=>?_
refine Zd (fun _=>hk.1) fun c1=>?_
refine Zq h3 hi fun e' he' hg'=>?_
rw [hg] at hg'
injection hg' with hg'
subst hg'
by_cases c2:200<(e.note.size:Int)
rw [decide_eq_true c2];exact hk.1
rw [decide_eq_false c2]
refine hk.2 fun e'' he''=>?_
rw [hg] at he''
injection he'' with he''
subst he''
exact ⟨by omega,by omega⟩
refine ⟨f.1,f.2,w.user,w.title,w.watch,w.dest,w.tick,w.prop,w.imp,a1,a2,fun r hr=>?_⟩
obtain ⟨j,hj⟩:=List.getElem?_of_mem hr
have:=(List.getElem?_eq_some_iff.1 hj).1
exact h5 j r (by omega) hj
refine Zd (fun _=>hk.1) fun h1=>?_
by_cases h2:200<(c.note.size:Int)
rw [decide_eq_true h2];exact hk.1
rw [decide_eq_false h2];exact hk.2 (by omega) (by omega)}
theorem RevOK.mono {c q c' q':Int} {r:Revision} (h:RevOK c q r) (hc:c<=c') (hq:q<=q'):RevOK c' q' r:=⟨h.text,h.note,h.user,h.minute0,Int.le_trans h.minute1 hc,h.seq0,Int.le_trans h.seq1 hq⟩
theorem HistOK.mono' {c q c' q':Int} {l:List Revision} (h:HistOK c q l) (hc:c<=c') (hq:q<=q'):HistOK c' q' l:=⟨h.len1,h.len2,h.num,fun r hr=>(h.all r hr).mono hc hq,h.mono⟩
theorem StoOK.mono {c q c' q':Int} {p:Stored} (h:StoOK c q p) (hc:c<=c') (hq:q<=q'):StoOK c' q' p:=⟨h.title,h.hist.mono' hc hq⟩
theorem PropOK.mono {c t c' t':Int} {p:Proposal} (h:PropOK c t p) (hc:c<=c') (ht:t<=t'):PropOK c' t' p:=⟨Int.le_trans h.id1 ht,h.user,h.title,h.base0,h.base1,h.text,h.note,h.minute0,Int.le_trans h.minute1 hc⟩
theorem VS.mono {t0:ByteArray} {q q':Int} {s:State} (h:VS t0 q s) (hq:q<=q'):VS t0 q' s:=
 ⟨h.seq0,h.clock0,h.clock1,h.plen,h.glen,fun p hp=>(h.pages p hp).mono (Int.le_refl _) hq,fun p hp=>(h.gone p hp).mono (Int.le_refl _) hq,h.sorted,h.rule,h.prlen,h.prop0,h.prop1,h.props,h.ids,h.prsort,h.wlen,h.watches,h.wsort,h.llen,fun w hw=>⟨(h.lasts w hw).1,(h.lasts w hw).2.1,Int.le_trans (h.lasts w hw).2.2 hq⟩,h.lsort⟩
theorem VS.withPages {t0:ByteArray} {q:Int} {s:State} (h:VS t0 q s) {l:List Stored} (h1:l.length<=200) (h2:∀ p ∈ l,StoOK s.clock q p) (h3:l.Pairwise fun a b=>tlt a.title b.title) (h4:∀ p ∈ l,p.title=policyT->ZkH p=t0):VS t0 q ⟨s.seq,s.clock,l,s.gone,s.proposals,s.proposed,s.watches,s.lasts⟩:=
 ⟨h.seq0,h.clock0,h.clock1,h1,h.glen,h2,h.gone,h3,h4,h.prlen,h.prop0,h.prop1,h.props,h.ids,h.prsort,h.wlen,h.watches,h.wsort,h.llen,h.lasts,h.lsort⟩
theorem VS.withGone {t0:ByteArray} {q:Int} {s:State} (h:VS t0 q s) {l:List Stored} (h1:l.length<=100) (h2:∀ p ∈ l,StoOK s.clock q p):VS t0 q ⟨s.seq,s.clock,s.pages,l,s.proposals,s.proposed,s.watches,s.lasts⟩:=
 ⟨h.seq0,h.clock0,h.clock1,h.plen,h1,h.pages,h2,h.sorted,h.rule,h.prlen,h.prop0,h.prop1,h.props,h.ids,h.prsort,h.wlen,h.watches,h.wsort,h.llen,h.lasts,h.lsort⟩
theorem VS.withProps {t0:ByteArray} {q:Int} {s:State} (h:VS t0 q s) {l:List Proposal} (hs:l.Sublist s.proposals):VS t0 q ⟨s.seq,s.clock,s.pages,s.gone,l,s.proposed,s.watches,s.lasts⟩:=
 ⟨h.seq0,h.clock0,h.clock1,h.plen,h.glen,h.pages,h.gone,h.sorted,h.rule,Nat.le_trans hs.length_le h.prlen,h.prop0,h.prop1,fun p hp=>h.props p (hs.subset hp),fun p hp=>h.ids p (hs.subset hp),h.prsort.sublist hs,h.wlen,h.watches,h.wsort,h.llen,h.lasts,h.lsort⟩
def ZlD (t0:ByteArray) (q:Int) (s:State) (r:State×Int):Prop:=r.2=0->VS t0 q r.1/\r.1.seq=s.seq/\s.clock<=r.1.clock/\r.1.clock<=s.clock+2000
theorem ZcG {t0:ByteArray} {q:Int} {s:State} {r:State×Int} (h:VS t0 q r.1) (h1:r.1.seq=s.seq) (h2:r.1.clock=s.clock):ZlD t0 q s r:=fun _=>⟨h,h1,by omega,by omega⟩
theorem Za8 {t0:ByteArray} {q:Int} {s s':State} {e:Int} (h:e≠0):ZlD t0 q s (s',e):=by
 unfold ZlD
 intro h'
 exact absurd h' h
theorem Zoh {t0:ByteArray} {q clock:Int} {l:List Stored} {p:Stored} {n:Nat} (h2:∀ p ∈ l,StoOK clock q p) (h3:l.Pairwise fun a b=>tlt a.title b.title) (h4:∀ p ∈ l,p.title=policyT->ZkH p=t0)
  (hp:StoOK clock q p) (hne:∀ y ∈ l,y.title≠p.title) (hr:p.title≠policyT) (i1:∀ y ∈ l.take n,tlt y.title p.title) (i2:∀ y,l[n]? = some y->¬ tlt y.title p.title) :
  (∀ y ∈ l.take n++p::l.drop n,StoOK clock q y)/\((l.take n++p::l.drop n).Pairwise fun a b=>tlt a.title b.title)/\∀ y ∈ l.take n++p::l.drop n,y.title=policyT->ZkH y=t0:=by{
have tr:∀ a b c:Stored,tlt a.title b.title->tlt b.title c.title->tlt a.title c.title:=fun a b c k1 k2=>Zgq k1 k2
have h5:∀ y,l[n]? = some y->tlt p.title y.title:=fun y hy=>(ZkE (hne y (List.mem_of_getElem? hy))).resolve_left (i2 y hy)
have h6:(l.take n++p::l.drop n).Pairwise fun a b:Stored=>tlt a.title b.title:=Zi7 (lt:=fun a b:Stored=>tlt a.title b.title) tr h3 i1 h5
refine ⟨fun y hy=>?_,h6,fun y hy e=>?_⟩
rcases ZkF hy with rfl | hy
exact hp
exact h2 y hy
rcases ZkF hy with rfl | hy
exact absurd e hr
exact h4 y hy e}
theorem Zwj {t0:ByteArray} {q:Int} {s:State} (h:VS t0 q s) (hq:1<=q) {t:Title} {u no tx:ByteArray} (ht:t.valid=true) (hu:Zc7 u=true) (h1:tx.size<=8192) (h2:no.size<=200):StoOK s.clock q ⟨t,[⟨1,u,no,tx,s.clock,q⟩]⟩:=
 ⟨ht,by simp,by simp,fun i r hr=>by
  cases i with
  | zero=>injection hr with hr;subst hr;rfl
  | succ i=>simp at hr,fun r hr=>by
  simp at hr
  subst hr
  exact ⟨h1,h2,hu,h.clock0,Int.le_refl _,hq,Int.le_refl _⟩,List.pairwise_singleton ..⟩
theorem ZzU {t0:ByteArray} {q:Int} {s:State} {c:Change} (h:VS t0 q s) (hq:1<=q) (hv:CV c) (ht:c.title.valid=true) (hne:c.title≠policyT):Tot (Zgc s c q) (ZlD t0 q s):=by{
have hl:=h.plen
unfold Zgc
refine Zh (Zgt s.pages c.title (by omega)) fun r hr=>?_
rcases hr with ⟨rfl,hno⟩ | ⟨n,p,rfl,hp,hpt⟩
refine Zd (fun _=>?_) fun hc=>absurd (by omega) hc
refine Zd (fun _=>Zc (Za8 (by decide))) fun hlt=>?_
refine Zh (Zdz s.pages _ (by omega)) fun r hr=>?_
obtain ⟨n,hn,rfl,i1,i2⟩:=hr
obtain ⟨o1,o2,o3⟩:=Zoh h.pages h.sorted h.rule (Zwj h hq ht hv.user hv.text hv.note) hno hne i1 i2
exact Zc (ZcG (h.withPages (by rw [ZhJ hn];omega) o1 o2 o3) rfl rfl)
refine Zd (fun hc=>absurd hc (by omega)) fun _=>?_
have hn:=(List.getElem?_eq_some_iff.1 hp).1
refine Zq (by omega) (by omega) fun e he hg=>?_
rw [Int.toNat_natCast,hp] at hg
injection hg with hg
subst hg
have hst:=h.pages p he
have hl2:=hst.hist.len2
refine Zd (fun _=>Zc (Za8 (by decide))) fun hlt=>?_
refine ZC 2000000 (by simp;omega) (by decide) (by decide) ?_
refine ZC 2000000 (by simp;omega) (by decide) (by decide) ?_
refine ZC 2000000 (by simp;omega) (by decide) (by decide) ?_
rw [Zjs,Zjs]
refine Zq (by omega) (by omega) fun e8 _ hg8=>?_
rw [Int.toNat_natCast,hp] at hg8
injection hg8 with hg8
subst hg8
have e1:w64 ((p.history.length:Int)+1)=(p.history.length:Int)+1:=Zn
rw [e1]
unfold ZbF
rw [Int.toNat_natCast]
have hnew:StoOK s.clock q ⟨p.title,p.history ++ [⟨(p.history.length:Int)+1,c.user,c.note,c.text,s.clock,q⟩]⟩:=by
 refine ⟨hst.title,by simp,by simp;omega,fun i r hr=>?_,fun r hr=>?_,?_⟩
 rcases Nat.lt_or_ge i p.history.length with hi | hi
 rw [List.getElem?_append_left hi] at hr
 exact hst.hist.num i r hr
 rw [List.getElem?_append_right hi] at hr
 have:i-p.history.length=0:=by
  have:=(List.getElem?_eq_some_iff.1 hr).1
  simp at this
  omega
 rw [this] at hr
 injection hr with hr
 subst hr
 show (p.history.length:Int)+1=_
 omega
 rcases List.mem_append.1 hr with hr | hr
 exact hst.hist.all r hr
 simp at hr
 subst hr
 exact ⟨hv.text,hv.note,hv.user,h.clock0,Int.le_refl _,hq,Int.le_refl _⟩
 refine List.pairwise_append.2 ⟨hst.hist.mono,List.pairwise_singleton ..,fun a ha b hb=>?_⟩
 simp at hb
 subst hb
 exact ⟨(hst.hist.all a ha).minute1,(hst.hist.all a ha).seq1⟩
refine Zc (ZcG (h.withPages (by simpa using hl) (fun y hy=>?_) ?_ fun y hy e=>?_) rfl rfl)
rcases List.mem_or_eq_of_mem_set hy with hy | rfl
exact h.pages y hy
exact hnew
have hs:=h.sorted
have key:(s.pages.set n ⟨p.title,p.history ++ [⟨(p.history.length:Int)+1,c.user,c.note,c.text,s.clock,q⟩]⟩).map (·.title)=s.pages.map (·.title):=by
 rw [List.map_set]
 apply List.ext_getElem?
 intro j
 rw [List.getElem?_set]
 split
 rename_i hj
 subst hj
 have hpe:=(List.getElem?_eq_some_iff.1 hp).2
 simp [hn,hpe]
 rfl
rw [<- List.pairwise_map (f:=Stored.title) (R:=tlt)] at hs ⊢
rw [key]
exact hs
rcases List.mem_or_eq_of_mem_set hy with hy | rfl
exact h.rule y hy e
exact absurd (hpt.symm.trans e) hne}
theorem ZzV {l:List Stored} (h:l.Pairwise fun a b=>tlt a.title b.title) {n:Nat} {p y:Stored} (hp:l[n]? = some p) (hy:y ∈ l.take n++l.drop (n+1)):y.title≠p.title:=by{
intro e
rcases List.mem_append.1 hy with hy | hy
obtain ⟨j,hj⟩:=List.getElem?_of_mem hy
rw [List.getElem?_take] at hj
split at hj
have:=Zgs h (by assumption) hj hp
rw [e] at this
exact ZaE _ this
cases hj
obtain ⟨j,hj⟩:=List.getElem?_of_mem hy
rw [List.getElem?_drop] at hj
have:=Zgs h (by omega) hp hj
rw [e] at this
exact ZaE _ this}
theorem Zu1 {t0:ByteArray} {q:Int} {s:State} {c:Change} (h:VS t0 q s):Tot (Zb5 s c) (ZlD t0 q s):=by{
have hl:=h.plen
have hg:=h.glen
have hpr:=h.prlen
unfold Zb5
refine Zh (Zgt s.pages c.title (by omega)) fun r hr=>?_
rcases hr with ⟨rfl,hno⟩ | ⟨n,p,rfl,hp,hpt⟩
refine Zd (fun _=>Zc (Za8 (by decide))) fun hc=>absurd (by omega) hc
refine Zd (fun hc=>absurd hc (by omega)) fun _=>?_
have hn:=(List.getElem?_eq_some_iff.1 hp).1
refine Zd (fun _=>Zc (Za8 (by decide))) fun hlt=>?_
refine ZC 2000000 (by simp;omega) (by decide) (by decide) ?_
refine Zq (by omega) (by omega) fun e he hg'=>?_
refine ZC 2000000 (by simp;omega) (by decide) (by decide) ?_
refine Za (ZgK s.pages n hn (by omega)) ?_
refine Zh (Zwm s.proposals c.title (by omega)) fun d hd=>?_
rw [Zjs]
have h1:=h.withPages (l:=s.pages.take n++s.pages.drop (n+1)) (by have:=ZmO hn;omega) (fun y hy=>h.pages y (ZhI hy)) (h.sorted.sublist (ZfL _ _)) fun y hy=>h.rule y (ZhI hy)
have h2:=h1.withGone (l:=s.gone ++ [e]) (by simp;omega) (fun y hy=>by
 rcases List.mem_append.1 hy with hy | hy
 exact h.gone y hy
 simp at hy
 subst hy
 exact h.pages _ he)
exact Zc (ZcG (h2.withProps hd) rfl rfl)}
theorem Zs3 {t0:ByteArray} {q:Int} {s:State} {c:Change} (h:VS t0 q s) (hne:c.title≠policyT):Tot (ZbC s c) (ZlD t0 q s):=by{
have hl:=h.plen
have hg:=h.glen
unfold ZbC
refine Zh (Zmr s c.title (by omega)) fun i hi=>?_
refine Zh (Zgt s.pages c.title (by omega)) fun r hr=>?_
rcases hr with ⟨rfl,hno⟩ | ⟨n,p,rfl,hp,hpt⟩
refine Zd (fun hc=>absurd hc (by omega)) fun _=>?_
rcases hi with rfl | ⟨n,p,rfl,hp,hpt⟩
exact Zd (fun _=>Zc (Za8 (by decide))) fun hc=>absurd (by omega) hc
refine Zd (fun hc=>absurd hc (by omega)) fun _=>?_
refine Zd (fun _=>Zc (Za8 (by decide))) fun hlt=>?_
have hn:=(List.getElem?_eq_some_iff.1 hp).1
refine Zq (by omega) (by omega) fun e he hg'=>?_
rw [Int.toNat_natCast,hp] at hg'
injection hg' with hg'
subst hg'
refine Zh (Zdz s.pages p (by omega)) fun r hr=>?_
obtain ⟨m,hm,rfl,i1,i2⟩:=hr
refine Za (ZgK s.gone n hn (by omega)) ?_
obtain ⟨o1,o2,o3⟩:=Zoh h.pages h.sorted h.rule (h.gone p he) (by rw [hpt];exact hno) (by rw [hpt];exact hne) i1 i2
have h1:=h.withPages (by rw [ZhJ hm];omega) o1 o2 o3
exact Zc (ZcG (h1.withGone (l:=s.gone.take n++s.gone.drop (n+1)) (by have:=ZmO hn;omega) fun y hy=>h.gone y (ZhI hy)) rfl rfl)
exact Zd (fun _=>Zc (Za8 (by decide))) fun hc=>absurd (by omega) hc}
theorem ZyP {t0:ByteArray} {q:Int} {s:State} {c:Change} (h:VS t0 q s) (hq:1<=q) (hv:CV c) (ht:c.title.valid=true) (hto:c.to.valid=true) (hne:c.title≠policyT) (hne2:c.to≠policyT):Tot (Zef s c q) (ZlD t0 q s):=by{
have hl:=h.plen
have hpr:=h.prlen
unfold Zef
refine Zh (Zgt s.pages c.title (by omega)) fun r hr=>?_
rcases hr with ⟨rfl,hno⟩ | ⟨n,p,rfl,hp,hpt⟩
refine Zd (fun _=>Zc (Za8 (by decide))) fun hc=>absurd (by omega) hc
refine Zd (fun hc=>absurd hc (by omega)) fun _=>?_
have hn:=(List.getElem?_eq_some_iff.1 hp).1
have hmem:=List.mem_of_getElem? hp
refine Zh (Zgt s.pages c.to (by omega)) fun r hr=>?_
rcases hr with ⟨rfl,hno⟩ | ⟨n',p',rfl,hp',hpt'⟩
refine Zd (fun hc=>absurd hc (by omega)) fun _=>?_
have hdiff:c.to≠c.title:=fun e=>hno p hmem (hpt.trans e.symm)
refine Zw (fun k=>Tot (k true) (ZlD t0 q s)/\((c.n=1->s.pages.length<200)->Tot (k false) (ZlD t0 q s))) ⟨ZH rfl (Zc (Za8 (by decide))),fun hlen=>?_⟩ fun k hk=>?_
refine Zs rfl ?_
refine Zq (by omega) (by omega) fun e he hg'=>?_
rw [Int.toNat_natCast,hp] at hg'
injection hg' with hg'
subst hg'
refine Za (ZgK s.pages n hn (by omega)) ?_
have hd1:=ZmO hn
refine Zh (Zdz _ _ (by omega)) fun r hr=>?_
obtain ⟨m,hm,rfl,i1,i2⟩:=hr
have hst:=h.pages p he
obtain ⟨o1,o2,o3⟩:=Zoh (t0:=t0) (q:=q) (clock:=s.clock) (l:=s.pages.take n++s.pages.drop (n+1)) (fun y hy=>h.pages y (ZhI hy)) (h.sorted.sublist (ZfL _ _)) (fun y hy=>h.rule y (ZhI hy)) (p:=⟨c.to,p.history⟩) ⟨hto,hst.hist⟩ (fun y hy=>hno y (ZhI hy)) hne2 i1 i2
have hmemI:∀ y ∈ (s.pages.take n++s.pages.drop (n+1)).take m++(⟨c.to,p.history⟩:Stored)::(s.pages.take n++s.pages.drop (n+1)).drop m,y.title≠c.title:=fun y hy=>by
 rcases ZkF hy with rfl | hy
 exact hdiff
 rw [<- hpt]
 exact ZzV h.sorted hp hy
have hlenI:=ZhJ (x:=(⟨c.to,p.history⟩:Stored)) hm
generalize (s.pages.take n++s.pages.drop (n+1)).take m++(⟨c.to,p.history⟩:Stored)::(s.pages.take n++s.pages.drop (n+1)).drop m=L at *
refine Zw (fun k=>∀ L':List Stored,L'.length<=200->(∀ p ∈ L',StoOK s.clock q p)->(L'.Pairwise fun a b=>tlt a.title b.title)->(∀ p ∈ L',p.title=policyT->ZkH p=t0)->Tot (k L') (ZlD t0 q s)) (fun L' a1 a2 a3 a4=>?_) fun k hk=>?_
refine Zh (Zwm s.proposals c.title (by omega)) fun d hd=>?_
exact Zc (ZcG ((h.withPages a1 a2 a3 a4).withProps hd) rfl rfl)
refine Zd (fun h1=>?_) fun h1=>hk L (by omega) o1 o2 o3
have:=hlen h1
refine Zh (Zsa c.to hto) fun x hx=>?_
refine Zh (Zdz L _ (by omega)) fun r hr=>?_
obtain ⟨m2,hm2,rfl,j1,j2⟩:=hr
obtain ⟨w1,w2,w3⟩:=Zoh o1 o2 o3 (Zwj h hq ht hv.user hx (by decide)) hmemI hne j1 j2
exact hk _ (by rw [ZhJ hm2];omega) w1 w2 w3
refine Zd (fun h1=>?_) fun h1=>hk.2 fun e=>absurd e h1
by_cases h2:200<=(s.pages.length:Int)
rw [decide_eq_true h2];exact hk.1
rw [decide_eq_false h2];exact hk.2 fun _=>by omega
exact Zd (fun _=>Zc (Za8 (by decide))) fun hc=>absurd (by omega) hc}
theorem ZyQ {t0:ByteArray} {q:Int} {s:State} {c:Change} (h:VS t0 q s) (hq:1<=q) (hv:CV c) (hi:ImpOK c.history) (ht:c.title.valid=true) (hne:c.title≠policyT):Tot (Zei s c q) (ZlD t0 q s):=by{
have hl:=h.plen
have hi1:=hi.len1
have hi2:=hi.len2
unfold Zei
refine Zh (Zgt s.pages c.title (by omega)) fun r hr=>?_
rcases hr with ⟨rfl,hno⟩ | ⟨n,p,rfl,hp,hpt⟩
refine Zd (fun hc=>absurd hc (by omega)) fun _=>?_
rw [Zn]
refine Zq (by omega) (by omega) fun e he hge=>?_
rw [show ((c.history.length:Int)-1).toNat=c.history.length-1 by omega] at hge
refine Zd (fun _=>Zc (Za8 (by decide))) fun hcl=>?_
refine Zd (fun _=>Zc (Za8 (by decide))) fun hlt=>?_
refine ZC 2000000 (by simp;omega) (by decide) (by decide) ?_
rw [Zjs]
have hmin:∀ r ∈ c.history,r.minute<=s.clock:=fun r hr=>by
 obtain ⟨j,hj⟩:=List.getElem?_of_mem hr
 have hjl:=(List.getElem?_eq_some_iff.1 hj).1
 rcases Nat.lt_or_ge j (c.history.length-1) with hjj | hjj
 have:=Zgs hi.mono hjj hj hge
 omega
 have:j=c.history.length-1:=by omega
 rw [this,hge] at hj
 injection hj with hj
 rw [<- hj]
 omega
refine Zr (fun a:Int×List Revision=>∃ n:Nat,a.1=n/\n<=c.history.length/\a.2.length=c.history.length/\∀ (j:Nat),a.2[j]? = (c.history[j]?).map fun r=>if j<n then ⟨r.number,r.user,r.note,r.text,r.minute,q⟩ else r) (fun a=>((c.history.length:Int)-a.1).toNat) ⟨0,rfl,Nat.zero_le _,rfl,fun j=>by simp⟩ (by first | omega | (dsimp only;omega)) ?_
rintro ⟨i,out⟩ rec ⟨n,hin,hn,hlen,hget⟩ ih
dsimp only at hin hlen hget
subst hin
refine Zd (fun hlt2=>?_) fun hlt2=>?_
refine Zq (by omega) hlt2 fun x hx hgx=>?_
rw [Int.toNat_natCast] at hgx
rw [Zn]
refine ih _ ⟨n+1,by dsimp only;omega,by omega,by unfold ZbF;simpa using hlen,fun j=>?_⟩ (by first | omega | (dsimp only;omega))
unfold ZbF
rw [Int.toNat_natCast,List.getElem?_set]
have hx2:=hget n
rw [hgx] at hx2
split
rename_i hj
subst hj
cases hc:c.history[n]? with
| none=>rw [hc] at hx2;cases hx2
| some y=>
  rw [hc] at hx2
  simp at hx2
  subst hx2
  rw [if_pos (by omega)]
  simp
rename_i hj
rw [hget j]
congr 1
funext r
by_cases hjn:j<n
rw [if_pos hjn,if_pos (by omega)]
rw [if_neg hjn,if_neg (by omega)]
have hnn:n=c.history.length:=by omega
have hst:StoOK s.clock q ⟨c.title,out⟩:=by
 have get:∀ (j:Nat) r,out[j]? = some r->∃ r0,c.history[j]? = some r0/\r=⟨r0.number,r0.user,r0.note,r0.text,r0.minute,q⟩:=fun j r hr=>by
  rw [hget j] at hr
  cases hc:c.history[j]? with
  | none=>rw [hc] at hr;cases hr
  | some y=>
    have:=(List.getElem?_eq_some_iff.1 hc).1
    rw [hc] at hr
    simp only [Option.map_some,if_pos (show j<n by omega),Option.some.injEq] at hr
    exact ⟨y,rfl,hr.symm⟩
 refine ⟨ht,by rw [hlen];exact hi1,by rw [hlen];exact hi2,fun j r hr=>?_,fun r hr=>?_,?_⟩
 obtain ⟨r0,h1,rfl⟩:=get j r hr
 exact hi.num j r0 h1
 obtain ⟨j,hj⟩:=List.getElem?_of_mem hr
 obtain ⟨r0,h1,rfl⟩:=get j r hj
 have hm:=List.mem_of_getElem? h1
 exact ⟨(hv.hist r0 hm).1,(hv.hist r0 hm).2,(hi.user r0 hm).1,(hi.user r0 hm).2,hmin r0 hm,hq,Int.le_refl _⟩
 rw [List.pairwise_iff_getElem]
 intro a b ha hb hab
 obtain ⟨ra,h1,e1⟩:=get a _ (List.getElem?_eq_getElem ha)
 obtain ⟨rb,h2,e2⟩:=get b _ (List.getElem?_eq_getElem hb)
 have:=Zgs hi.mono hab h1 h2
 rw [e1,e2]
 exact ⟨this,Int.le_refl _⟩
refine Zh (Zdz s.pages _ (by omega)) fun r hr=>?_
obtain ⟨m,hm,rfl,i1,i2⟩:=hr
obtain ⟨o1,o2,o3⟩:=Zoh h.pages h.sorted h.rule hst hno hne i1 i2
exact Zc (ZcG (h.withPages (by rw [ZhJ hm];omega) o1 o2 o3) rfl rfl)
exact Zd (fun _=>Zc (Za8 (by decide))) fun hc=>absurd (by omega) hc}
theorem ZtF {a b c:Watch} (h:wlt a b) (k:wlt b c):wlt a c:=by{
rcases h with h | ⟨h1,h2⟩<;>rcases k with k | ⟨k1,k2⟩
exact .inl (Zi5 h k)
exact .inl (k1 ▸ h)
exact .inl (h1 ▸ k)
exact .inr ⟨h1.trans k1,Zgq h2 k2⟩}
theorem ZtG {a b:Watch} (h:a≠b):wlt a b\/wlt b a:=by{
by_cases e:a.user=b.user
rcases ZkE (a:=a.title) (b:=b.title) (fun e2=>h (by cases a;cases b;simp_all)) with h2 | h2
exact .inl (.inr ⟨e,h2⟩)
exact .inr (.inr ⟨e.symm,h2⟩)
rcases Zi6 e with h2 | h2
exact .inl (.inl h2)
exact .inr (.inl h2)}
theorem ZtH {u:ByteArray} (h:Zc7 u=true) (h0:u≠⟨#[]⟩):Za0 u=true:=by
 unfold Zc7 at h
 rw [decide_eq_false h0] at h
 simpa using h
theorem VS.withWatches {t0:ByteArray} {q:Int} {s:State} (h:VS t0 q s) {l:List Watch} (h1:l.length<=100) (h2:∀ w ∈ l,Za0 w.user=true/\w.title.valid=true) (h3:l.Pairwise wlt):VS t0 q ⟨s.seq,s.clock,s.pages,s.gone,s.proposals,s.proposed,l,s.lasts⟩:=
 ⟨h.seq0,h.clock0,h.clock1,h.plen,h.glen,h.pages,h.gone,h.sorted,h.rule,h.prlen,h.prop0,h.prop1,h.props,h.ids,h.prsort,h1,h2,h3,h.llen,h.lasts,h.lsort⟩
theorem VS.withLasts {t0:ByteArray} {q:Int} {s:State} (h:VS t0 q s) {l:List Last} (h1:l.length<=60) (h2:∀ w ∈ l,Za0 w.user=true/\1<=w.seq/\w.seq<=q) (h3:l.Pairwise fun a b=>Zkc a.user b.user):VS t0 q ⟨s.seq,s.clock,s.pages,s.gone,s.proposals,s.proposed,s.watches,l⟩:=
 ⟨h.seq0,h.clock0,h.clock1,h.plen,h.glen,h.pages,h.gone,h.sorted,h.rule,h.prlen,h.prop0,h.prop1,h.props,h.ids,h.prsort,h.wlen,h.watches,h.wsort,h1,h2,h3⟩
theorem ZvD (a b c:Watch) (h1:wlt a b) (h2:wlt b c):wlt a c:=ZtF h1 h2
theorem ZxD {t0:ByteArray} {q:Int} {s:State} {c:Change} (h:VS t0 q s) (hu:Za0 c.user=true) (ht:c.title.valid=true):Tot (ZcW s c) (ZlD t0 q s):=by{
have hl:=h.wlen
unfold ZcW
refine Zr (fun a:Int×List Watch=>∃ n:Nat,a.1=n/\n<=s.watches.length/\a.2=s.watches.take n/\∀ y ∈ s.watches.take n,wlt y ⟨c.user,c.title⟩) (fun a=>((s.watches.length:Int)-a.1).toNat) ⟨0,rfl,Nat.zero_le _,rfl,fun y h=>by simp at h⟩ (by first | omega | (dsimp only;omega)) ?_
rintro ⟨i,out⟩ rec ⟨n,hi,hn,ho,hlt⟩ ih
dsimp only at hi ho
subst hi ho
refine Zw (fun k=>(∀ e,s.watches[n]? = some e->wlt e ⟨c.user,c.title⟩->Tot (k true) (ZlD t0 q s))/\((∀ y,s.watches[n]? = some y->¬ wlt y ⟨c.user,c.title⟩)->Tot (k false) (ZlD t0 q s))) ⟨fun e he hep=>?_,fun hne=>?_⟩ fun k hk=>?_
have hln:=(List.getElem?_eq_some_iff.1 he).1
refine ZH rfl ?_
refine Zq (by omega) (by omega) fun e' _ hg'=>?_
rw [Int.toNat_natCast,he] at hg'
injection hg' with hg'
subst hg'
refine ZC 2000000 (by simp;omega) (by decide) (by decide) ?_
rw [Zcj he,Zn]
refine ih _ ⟨n+1,by dsimp only;omega,hln,rfl,fun y hy=>?_⟩ (by first | omega | (dsimp only;omega))
rw [<- Zcj he] at hy
rcases List.mem_append.1 hy with hy | hy
exact hlt y hy
simp at hy
rw [hy]
exact hep
refine Zs rfl ?_
refine Zw (fun k=>(n<s.watches.length->Tot (k true) (ZlD t0 q s))/\((∀ y,s.watches[n]? = some y->y≠⟨c.user,c.title⟩)->Tot (k false) (ZlD t0 q s))) ⟨fun hnl=>?_,fun hnw=>?_⟩ fun k hk=>?_
refine Zd (fun _=>?_) fun _=>?_
refine Zs rfl ?_
rw [Zn]
refine Za (Zfz s.watches (n:=n+1) (by omega) hnl) ?_
refine ZC 2000000 (by simp;omega) (by decide) (by decide) ?_
exact Zc (ZcG (h.withWatches (by have:=ZmO hnl;omega) (fun y hy=>h.watches y (ZhI hy)) (h.wsort.sublist (ZfL _ _))) rfl rfl)
exact ZH rfl (Zc (Za8 (by decide)))
refine Zd (fun _=>?_) fun _=>?_
exact ZH rfl (Zc (Za8 (by decide)))
refine Zs rfl ?_
refine Zd (fun _=>Zc (Za8 (by decide))) fun hlen=>?_
refine ZC 2000000 (by simp;omega) (by decide) (by decide) ?_
refine Za (Zfz s.watches rfl hn) ?_
refine ZC 2000000 (by simp;omega) (by decide) (by decide) ?_
rw [List.append_assoc]
refine Zc (ZcG (h.withWatches ?_ (fun y hy=>?_) (Zi7 (lt:=wlt) (x:=⟨c.user,c.title⟩) ZvD h.wsort hlt fun y hy=>(ZtG (hnw y hy)).resolve_left (hne y hy))) rfl rfl)
have:=ZhJ (x:=(⟨c.user,c.title⟩:Watch)) hn
simp only [List.cons_append,List.nil_append]
omega
rcases ZkF hy with rfl | hy
exact ⟨hu,ht⟩
exact h.watches y hy
refine Zd (fun h1=>?_) fun h1=>hk.2 fun y hy=>?_
refine Zq (by omega) h1 fun e _ hg=>?_
rw [Int.toNat_natCast] at hg
by_cases he:e=⟨c.user,c.title⟩
rw [decide_eq_true he]
exact hk.1 (by omega)
rw [decide_eq_false he]
refine hk.2 fun y hy=>?_
rw [hg] at hy
injection hy with hy
rw [<- hy]
exact he
have:=(List.getElem?_eq_some_iff.1 hy).1
omega
refine Zd (fun h1=>?_) fun h1=>hk.2 fun y hy=>?_
refine Zq (by omega) h1 fun e _ hg=>?_
rw [Int.toNat_natCast] at hg
refine Zh (ZqK e ⟨c.user,c.title⟩) fun b hb=>?_
cases b
refine hk.2 fun y hy=>?_
rw [hg] at hy
injection hy with hy
rw [<- hy]
intro hw
have:=hb.2 hw
cases this
exact hk.1 e hg (hb.1 rfl)
have:=(List.getElem?_eq_some_iff.1 hy).1
omega}
theorem ZxE (a b c:Last) (h1:Zkc a.user b.user) (h2:Zkc b.user c.user):Zkc a.user c.user:=Zi5 h1 h2
theorem Zqc {t0:ByteArray} {q:Int} {s:State} {u:ByteArray} (h:VS t0 q s) (hq:1<=q) (hu:Zc7 u=true):Tot (ZcF s u q) fun r=>r.2=0->VS t0 q r.1/\r.1.seq=s.seq/\r.1.clock=s.clock:=by{
have hl:=h.llen
unfold ZcF
refine Zd (fun _=>Zc fun _=>⟨h,rfl,rfl⟩) fun h0=>?_
have hn0:=ZtH hu h0
refine Zr (fun a:Int×List Last=>∃ n:Nat,a.1=n/\n<=s.lasts.length/\a.2=s.lasts.take n/\∀ y ∈ s.lasts.take n,Zkc y.user u) (fun a=>((s.lasts.length:Int)-a.1).toNat) ⟨0,rfl,Nat.zero_le _,rfl,fun y h=>by simp at h⟩ (by first | omega | (dsimp only;omega)) ?_
rintro ⟨i,out⟩ rec ⟨n,hi,hn,ho,hlt⟩ ih
dsimp only at hi ho
subst hi ho
refine Zw (fun k=>(∀ e,s.lasts[n]? = some e->Zkc e.user u->Tot (k true) fun r=>r.2=0->VS t0 q r.1/\r.1.seq=s.seq/\r.1.clock=s.clock)/\((∀ y,s.lasts[n]? = some y->¬ Zkc y.user u)->Tot (k false) fun r=>r.2=0->VS t0 q r.1/\r.1.seq=s.seq/\r.1.clock=s.clock)) ⟨fun e he hep=>?_,fun hne=>?_⟩ fun k hk=>?_
have hln:=(List.getElem?_eq_some_iff.1 he).1
refine ZH rfl ?_
refine Zq (by omega) (by omega) fun e' _ hg'=>?_
rw [Int.toNat_natCast,he] at hg'
injection hg' with hg'
subst hg'
refine ZC 2000000 (by simp;omega) (by decide) (by decide) ?_
rw [Zcj he,Zn]
refine ih _ ⟨n+1,by dsimp only;omega,hln,rfl,fun y hy=>?_⟩ (by first | omega | (dsimp only;omega))
rw [<- Zcj he] at hy
rcases List.mem_append.1 hy with hy | hy
exact hlt y hy
simp at hy
rw [hy]
exact hep
refine Zs rfl ?_
refine Zw (fun k=>(∀ e,s.lasts[n]? = some e->e.user=u->Tot (k true) fun r=>r.2=0->VS t0 q r.1/\r.1.seq=s.seq/\r.1.clock=s.clock)/\((∀ y,s.lasts[n]? = some y->y.user≠u)->Tot (k false) fun r=>r.2=0->VS t0 q r.1/\r.1.seq=s.seq/\r.1.clock=s.clock)) ⟨fun e he heu=>?_,fun hnw=>?_⟩ fun k hk=>?_
have hln:=(List.getElem?_eq_some_iff.1 he).1
refine Zap ?_
refine Zs rfl ?_
refine Zs rfl ?_
refine ZC 2000000 (by simp;omega) (by decide) (by decide) ?_
refine Zap ?_
refine ZH rfl ?_
rw [Zn]
refine Za (Zfz s.lasts (n:=n+1) (by omega) hln) ?_
refine ZC 2000000 (by simp;omega) (by decide) (by decide) ?_
rw [List.append_assoc]
refine Zc fun _=>⟨h.withLasts ?_ (fun y hy=>?_) (Zrm (lt:=fun a b:Last=>Zkc a.user b.user) (x:=⟨u,q⟩) (y:=e) h.lsort he (fun z hz=>by rw [heu] at hz;exact hz) (fun z hz=>by rw [heu] at hz;exact hz)),rfl,rfl⟩
simp
omega
rcases List.mem_append.1 hy with hy | hy
exact h.lasts y (List.mem_of_mem_take hy)
rcases List.mem_cons.1 hy with rfl | hy
exact ⟨hn0,hq,Int.le_refl _⟩
exact h.lasts y (List.mem_of_mem_drop hy)
refine Zw (fun k=>Tot (k true) (fun r=>r.2=0->VS t0 q r.1/\r.1.seq=s.seq/\r.1.clock=s.clock)/\(s.lasts.length<60->Tot (k false) fun r=>r.2=0->VS t0 q r.1/\r.1.seq=s.seq/\r.1.clock=s.clock)) ⟨ZH rfl (Zc fun e=>by cases e),fun hlen=>?_⟩ fun k hk=>?_
refine Zs rfl ?_
refine ZC 2000000 (by simp;omega) (by decide) (by decide) ?_
refine Zap ?_
refine Zs rfl ?_
refine Za (Zfz s.lasts rfl hn) ?_
refine ZC 2000000 (by simp;omega) (by decide) (by decide) ?_
rw [List.append_assoc]
refine Zc fun _=>⟨h.withLasts ?_ (fun y hy=>?_) (Zi7 (lt:=fun a b:Last=>Zkc a.user b.user) ZxE h.lsort hlt fun y hy=>(Zi6 (hnw y hy)).resolve_left (hne y hy)),rfl,rfl⟩
have:=ZhJ (x:=(⟨u,q⟩:Last)) hn
simp only [List.cons_append,List.nil_append]
omega
rcases ZkF hy with rfl | hy
exact ⟨hn0,hq,Int.le_refl _⟩
exact h.lasts y hy
refine ZH rfl ?_
by_cases h2:60<=(s.lasts.length:Int)
rw [decide_eq_true h2];exact hk.1
rw [decide_eq_false h2];exact hk.2 (by omega)
refine Zd (fun h1=>?_) fun h1=>hk.2 fun y hy=>?_
refine Zq (by omega) h1 fun e _ hg=>?_
rw [Int.toNat_natCast] at hg
by_cases he:e.user=u
rw [decide_eq_true he]
exact hk.1 e hg he
rw [decide_eq_false he]
refine hk.2 fun y hy=>?_
rw [hg] at hy
injection hy with hy
rw [<- hy]
exact he
have:=(List.getElem?_eq_some_iff.1 hy).1
omega
refine Zd (fun h1=>?_) fun h1=>hk.2 fun y hy=>?_
refine Zq (by omega) h1 fun e _ hg=>?_
rw [Int.toNat_natCast] at hg
rcases Bool.eq_false_or_eq_true (ltS e.user u) with hb | hb
rw [hb];exact hk.1 e hg hb
rw [hb]
refine hk.2 fun y hy=>?_
rw [hg] at hy
injection hy with hy
rw [<- hy]
intro hw
unfold Zkc at hw
rw [hb] at hw
cases hw
have:=(List.getElem?_eq_some_iff.1 hy).1
omega}
theorem ZtI {t0:ByteArray} {q:Int} {s:State} {c:Change} (h:VS t0 q s) (hv:CV c) (h9:c.kind=9):Tot (Zbu s c) (ZlD t0 q s):=by{
have hl:=h.prlen
have h0:=h.prop0
have h1:=h.prop1
have hn:=hv.prop h9
have ht:=hv.title (by omega) (by omega)
unfold Zbu
refine Zw (fun k=>Tot (k true) (ZlD t0 q s)/\(s.proposals.length<40->s.proposed<1073741824->Tot (k false) (ZlD t0 q s))) ⟨ZH rfl (Zc (Za8 (by decide))),fun a1 a2=>?_⟩ fun k hk=>?_
refine Zs rfl ?_
refine ZC 2000000 (by simp;omega) (by decide) (by decide) ?_
refine ZC 2000000 (by simp;omega) (by decide) (by decide) ?_
rw [Zjs,Zn]
have c0:=h.clock0
refine Zc (ZcG ⟨h.seq0,h.clock0,h.clock1,h.plen,h.glen,h.pages,h.gone,h.sorted,h.rule,by simp;omega,by show 0<=s.proposed+1;omega,by show s.proposed+1<=_;omega,fun p hp=>?_,fun p hp=>?_,?_,h.wlen,h.watches,h.wsort,h.llen,h.lasts,h.lsort⟩ rfl rfl)
rcases List.mem_append.1 hp with hp | hp
exact (h.props p hp).mono (Int.le_refl _) (by show s.proposed<=s.proposed+1;omega)
simp at hp
subst hp
exact ⟨Int.le_refl _,hv.user,ht,hn.1,hn.2,hv.text,hv.note,h.clock0,Int.le_refl _⟩
rcases List.mem_append.1 hp with hp | hp
exact h.ids p hp
simp at hp
subst hp
show 1<=s.proposed+1
omega
refine List.pairwise_append.2 ⟨h.prsort,List.pairwise_singleton ..,fun a ha b hb=>?_⟩
simp at hb
subst hb
have:=(h.props a ha).id1
show a.id<s.proposed+1
omega
refine Zd (fun _=>hk.1) fun a=>?_
by_cases h2:1073741824<=s.proposed
rw [decide_eq_true h2];exact hk.1
rw [decide_eq_false h2];exact hk.2 (by omega) (by omega)}
theorem ZtJ {t0:ByteArray} {q:Int} {s:State} {c:Change} (h:VS t0 q s) (hq:1<=q) (hv:CV c) (hc:c.tame):Tot (Zcq s c q) (ZlD t0 q s):=by{
have k1:=hv.kind1
have k2:=hv.kind2
have c0:=h.clock0
have c1:=h.clock1
unfold Zcq
refine Zd (fun e=>?_) fun e1=>?_
exact Zh (ZzU h hq hv (hv.title (by omega) (by omega)) hc.title) fun r hr=>Zc hr
refine Zd (fun e=>?_) fun e2=>?_
exact Zh (Zu1 h) fun r hr=>Zc hr
refine Zd (fun e=>?_) fun e3=>?_
exact Zh (Zs3 h hc.title) fun r hr=>Zc hr
refine Zd (fun e=>?_) fun e4=>?_
exact Zh (ZyP h hq hv (hv.title (by omega) (by omega)) (hv.dest e) hc.title hc.to) fun r hr=>Zc hr
refine Zd (fun e=>?_) fun e5=>?_
exact Zh (ZyQ h hq hv (hv.imp e) (hv.title (by omega) (by omega)) hc.title) fun r hr=>Zc hr
refine Zd (fun e=>?_) fun e6=>?_
have n1:=hv.tick e
have n2:=hc.n1
rw [Zn]
refine Zd (fun _=>Zc (Za8 (by decide))) fun hlt=>?_
rw [Zn]
have hcl:s.clock<=s.clock+c.n:=by omega
refine Zc fun _=>⟨⟨h.seq0,by show 0<=s.clock+c.n;omega,by show s.clock+c.n<=_;omega,h.plen,h.glen,fun p hp=>(h.pages p hp).mono hcl (Int.le_refl _),fun p hp=>(h.gone p hp).mono hcl (Int.le_refl _),h.sorted,h.rule,h.prlen,h.prop0,h.prop1,fun p hp=>(h.props p hp).mono hcl (Int.le_refl _),h.ids,h.prsort,h.wlen,h.watches,h.wsort,h.llen,h.lasts,h.lsort⟩,rfl,hcl,?_⟩
show s.clock+c.n<=s.clock+2000
omega
refine Zw (fun k=>(c.kind=7\/c.kind=8->Tot (k true) (ZlD t0 q s))/\(¬ (c.kind=7\/c.kind=8)->Tot (k false) (ZlD t0 q s))) ⟨fun hw=>?_,fun hw=>?_⟩ fun k hk=>?_
refine ZH rfl ?_
exact Zh (ZxD h (ZtH hv.user (hv.watch hw)) (hv.title (by omega) (by omega))) fun r hr=>Zc hr
refine Zs rfl ?_
refine Zd (fun e=>?_) fun e9=>?_
exact Zh (ZtI h hv e) fun r hr=>Zc hr
refine Zh (ZtA s c (by have:=h.prlen;omega)) fun r hr=>Zc ?_
intro h0
obtain ⟨l,hs,e⟩:=hr h0
rw [e]
exact ⟨h.withProps hs,rfl,Int.le_refl _,by show s.clock<=s.clock+2000;omega⟩
refine Zd (fun e=>?_) fun e7=>?_
rw [decide_eq_true e];exact hk.1 (.inl e)
by_cases e8:c.kind=8
rw [decide_eq_true e8];exact hk.1 (.inr e8)
rw [decide_eq_false e8];exact hk.2 (by omega)}
theorem Zf4 (c:Change) (hc:c.tame):Tot (ZbE c) fun _=>True:=by{
unfold ZbE
refine Zd (fun e=>?_) fun e=>?_
refine Za (v:=policyT) rfl ?_
exact Zak (fun _=>Zc trivial) fun e2=>absurd e2 hc.title
refine Zw (fun k=>∀ b,Tot (k b) fun _=>True) (fun b=>?_) fun k hk=>?_
refine Zbj (fun _=>?_) fun _=>?_
refine Za (v:=policyT) rfl ?_
exact Zc trivial
refine Zd (fun e4=>?_) fun e4=>Zc trivial
refine Zw (fun k=>∀ b,Tot (k b) fun _=>True) (fun b=>Zc trivial) fun k hk=>?_
refine Za (v:=policyT) rfl ?_
refine Zd (fun _=>hk _) fun _=>?_
refine Za (v:=policyT) rfl ?_
exact hk _
exact Zd (fun _=>hk _) fun _=>Zd (fun _=>hk _) fun _=>hk _}
theorem ZxF {t0:ByteArray} {s:State} {l:List Change} (h:VS t0 s.seq s) (hs:s.seq<1073741824) (hp:∃ p n,ZW t0=some (p,n,0)) (hl:∀ c ∈ l,c.tame) (hn:l.length<=16):Tot (Zay s l) fun r=>r.2=0->VS t0 r.1.seq r.1/\r.1.seq=s.seq+1/\s.clock<=r.1.clock/\r.1.clock<=s.clock+2000 * (l.length:Int):=by{
have s0:=h.seq0
unfold Zay
refine Za (ZpC t0 s h (by omega) hp) ?_
refine Zs rfl ?_
have e1:w64 (s.seq+1)=s.seq+1:=Zn
refine Zw (fun k=>Tot (k true) (fun r=>r.2=0->VS t0 r.1.seq r.1/\r.1.seq=s.seq+1/\s.clock<=r.1.clock/\r.1.clock<=s.clock+2000 * (l.length:Int))/\Tot (k false) (fun r=>r.2=0->VS t0 r.1.seq r.1/\r.1.seq=s.seq+1/\s.clock<=r.1.clock/\r.1.clock<=s.clock+2000 * (l.length:Int))) ⟨ZH rfl (Zc fun e=>by cases e),?_⟩ fun k hk=>?_
refine Zs rfl ?_
refine Zr (fun a:Int×Int×Int×List Stored×List Stored×List Proposal×Int×List Watch×List Last=>∃ n:Nat,a.1=n/\n<=l.length/\VS t0 (s.seq+1) ⟨a.2.1,a.2.2.1,a.2.2.2.1,a.2.2.2.2.1,a.2.2.2.2.2.1,a.2.2.2.2.2.2.1,a.2.2.2.2.2.2.2.1,a.2.2.2.2.2.2.2.2⟩/\a.2.1=s.seq/\s.clock<=a.2.2.1/\a.2.2.1<=s.clock+2000 * (n:Int)) (fun a=>((l.length:Int)-a.1).toNat) ⟨0,rfl,Nat.zero_le _,h.mono (by omega),rfl,Int.le_refl _,by simp⟩ (by first | omega | (dsimp only;omega)) ?_
rintro ⟨i,sq,cl,pg,gn,pr,pd,wt,ls⟩ rec ⟨n,hi,hn',hV,hsq,hc0,hc1⟩ ih
dsimp only at hi hV hsq hc0 hc1
subst hi hsq
rw [e1]
refine Zd (fun hlt=>?_) fun hlt=>?_
refine Zq (by omega) hlt fun c hcm hg=>?_
have get:∀ {f:Change->Option (State×Int)} {R:State×Int->Prop},Tot (f c) R->Tot ((atI l (n:Int)).bind f) R:=fun hf=>Za (Zed (by simpa using hg)) hf
have tame:=hl c hcm
refine Zh (Zle c (by have:=tame.hist;omega)) fun e he=>?_
refine Zak (fun hne=>Zc fun e0=>absurd e0 hne) fun h0=>?_
have cv:=he h0
refine get ?_
refine Zh (ZtJ hV (by omega) cv tame) fun r hr=>?_
refine Zak (fun hne=>Zc fun e0=>absurd e0 hne) fun h0=>?_
obtain ⟨k1,k2,k3,k4⟩:=hr h0
refine get ?_
refine Zh (Zf4 c tame) fun b _=>?_
refine Zbj (fun _=>Zc fun e0=>by cases e0) fun _=>?_
refine get ?_
refine Zh (Zqc k1 (by omega) cv.user) fun r2 hr2=>?_
refine Zak (fun hne=>Zc fun e0=>absurd e0 hne) fun h0=>?_
obtain ⟨m1,m2,m3⟩:=hr2 h0
rw [Zn]
refine ih _ ⟨n+1,by dsimp only;omega,by omega,m1,?_,?_,?_⟩ (by first | omega | (dsimp only;omega))
dsimp only at k2 ⊢
omega
dsimp only at k3 ⊢
omega
dsimp only at k4 ⊢
omega
refine Zd (fun hc=>absurd hc (by omega)) fun _=>Zc fun _=>?_
refine ⟨⟨by show 0<=s.seq+1;omega,hV.clock0,hV.clock1,hV.plen,hV.glen,hV.pages,hV.gone,hV.sorted,hV.rule,hV.prlen,hV.prop0,hV.prop1,hV.props,hV.ids,hV.prsort,hV.wlen,hV.watches,hV.wsort,hV.llen,hV.lasts,hV.lsort⟩,rfl,hc0,?_⟩
show cl<=_
have:(n:Int)<=l.length:=by omega
omega
refine Zd (fun _=>hk.1) fun h1=>?_
rw [decide_eq_false (by omega)]
exact hk.2}
def polS0:Policy:=⟨[],[],[]⟩
def polS1:Policy:=⟨polS0.groups,polS0.rules.concat ⟨true,1,⟨#[97,108,108]⟩,⟨1,⟨0,⟨#[]⟩⟩⟩⟩,polS0.guards⟩
def polS2:Policy:=⟨polS1.groups,polS1.rules.concat ⟨true,2,⟨#[97,108,108]⟩,⟨1,⟨0,⟨#[]⟩⟩⟩⟩,polS1.guards⟩
def polS3:Policy:=⟨polS2.groups,polS2.rules.concat ⟨true,3,⟨#[97,108,108]⟩,⟨1,⟨0,⟨#[]⟩⟩⟩⟩,polS2.guards⟩
def polS4:Policy:=⟨polS3.groups,polS3.rules.concat ⟨true,4,⟨#[97,108,108]⟩,⟨1,⟨0,⟨#[]⟩⟩⟩⟩,polS3.guards⟩
def polS5:Policy:=⟨polS4.groups,polS4.rules.concat ⟨true,5,⟨#[97,108,108]⟩,⟨1,⟨0,⟨#[]⟩⟩⟩⟩,polS4.guards⟩
def polS6:Policy:=⟨polS5.groups.concat ⟨⟨#[115,116,97,102,102]⟩,[⟨#[97,110,110]⟩]⟩,polS5.rules,polS5.guards⟩
def polS7:Policy:=⟨polS6.groups,polS6.rules.concat ⟨false,1,⟨#[97,108,108]⟩,⟨3,⟨0,⟨#[65]⟩⟩⟩⟩,polS6.guards⟩
def ZlL:Policy:=⟨polS7.groups,polS7.rules.concat ⟨true,1,⟨#[115,116,97,102,102]⟩,⟨3,⟨0,⟨#[65,47,67]⟩⟩⟩⟩,polS7.guards⟩
def polS9:Policy:=⟨polS6.groups,polS6.rules,polS6.guards.concat ⟨false,⟨#[115,116,97,102,102]⟩,⟨0,⟨#[65]⟩⟩,⟨#[83]⟩⟩⟩
def polS10:Policy:=⟨polS9.groups,polS9.rules,polS9.guards.concat ⟨true,⟨#[115,116,97,102,102]⟩,⟨3,⟨#[84]⟩⟩,⟨#[]⟩⟩⟩
def Zhv:Policy:=⟨polS10.groups,polS10.rules,polS10.guards.concat ⟨false,⟨#[115,116,97,102,102]⟩,⟨0,⟨#[66]⟩⟩,⟨#[]⟩⟩⟩
def polS12:Policy:=⟨polS0.groups.concat ⟨⟨#[115,116,97,102,102]⟩,[⟨#[97,110,110]⟩,⟨#[64,109,111,114,101]⟩]⟩,polS0.rules,polS0.guards⟩
def polS13:Policy:=⟨polS12.groups.concat ⟨⟨#[109,111,114,101]⟩,[⟨#[98,111,98]⟩]⟩,polS12.rules,polS12.guards⟩
def polS14:Policy:=⟨polS13.groups,polS13.rules.concat ⟨true,1,⟨#[97,108,108]⟩,⟨2,⟨0,⟨#[]⟩⟩⟩⟩,polS13.guards⟩
def polS15:Policy:=⟨polS14.groups,polS14.rules.concat ⟨true,1,⟨#[97,108,108]⟩,⟨2,⟨3,⟨#[]⟩⟩⟩⟩,polS14.guards⟩
def polS16:Policy:=⟨polS15.groups,polS15.rules.concat ⟨true,1,⟨#[97,108,108]⟩,⟨2,⟨4,⟨#[]⟩⟩⟩⟩,polS15.guards⟩
def polS17:Policy:=⟨polS16.groups,polS16.rules.concat ⟨true,2,⟨#[117,115,101,114,115]⟩,⟨2,⟨0,⟨#[]⟩⟩⟩⟩,polS16.guards⟩
def polS18:Policy:=⟨polS17.groups,polS17.rules.concat ⟨true,2,⟨#[115,116,97,102,102]⟩,⟨2,⟨4,⟨#[]⟩⟩⟩⟩,polS17.guards⟩
def polS19:Policy:=⟨polS18.groups,polS18.rules.concat ⟨true,5,⟨#[115,116,97,102,102]⟩,⟨1,⟨0,⟨#[]⟩⟩⟩⟩,polS18.guards⟩
def polS20:Policy:=⟨polS19.groups,polS19.rules.concat ⟨true,3,⟨#[115,116,97,102,102]⟩,⟨1,⟨0,⟨#[]⟩⟩⟩⟩,polS19.guards⟩
def polS21:Policy:=⟨polS20.groups,polS20.rules.concat ⟨true,4,⟨#[115,116,97,102,102]⟩,⟨1,⟨0,⟨#[]⟩⟩⟩⟩,polS20.guards⟩
def polS22:Policy:=⟨polS21.groups,polS21.rules.concat ⟨true,1,⟨#[115,116,97,102,102]⟩,⟨1,⟨0,⟨#[]⟩⟩⟩⟩,polS21.guards⟩
def Zhw:Policy:=⟨polS22.groups,polS22.rules.concat ⟨true,2,⟨#[115,116,97,102,102]⟩,⟨1,⟨0,⟨#[]⟩⟩⟩⟩,polS22.guards⟩
def polS24:Policy:=⟨polS5.groups,polS5.rules.concat ⟨false,1,⟨#[97,108,108]⟩,⟨3,⟨0,⟨#[66]⟩⟩⟩⟩,polS5.guards⟩
def Zhx:Policy:=⟨polS24.groups,polS24.rules.concat ⟨false,1,⟨#[97,108,108]⟩,⟨3,⟨4,⟨#[89]⟩⟩⟩⟩,polS24.guards⟩
def polS26:Policy:=⟨polS5.groups,polS5.rules.concat ⟨false,2,⟨#[97,108,108]⟩,⟨3,⟨0,⟨#[66]⟩⟩⟩⟩,polS5.guards⟩
def Zhy:Policy:=⟨polS26.groups,polS26.rules.concat ⟨false,1,⟨#[117,115,101,114,115]⟩,⟨3,⟨0,⟨#[68]⟩⟩⟩⟩,polS26.guards⟩
def polS28:Policy:=⟨polS6.groups,polS6.rules.concat ⟨false,5,⟨#[97,108,108]⟩,⟨1,⟨0,⟨#[]⟩⟩⟩⟩,polS6.guards⟩
def polS29:Policy:=⟨polS28.groups,polS28.rules.concat ⟨true,5,⟨#[115,116,97,102,102]⟩,⟨2,⟨0,⟨#[]⟩⟩⟩⟩,polS28.guards⟩
def polS30:Policy:=⟨polS29.groups,polS29.rules,polS29.guards.concat ⟨false,⟨#[115,116,97,102,102]⟩,⟨0,⟨#[65]⟩⟩,⟨#[]⟩⟩⟩
def Zhz:Policy:=⟨polS30.groups,polS30.rules,polS30.guards.concat ⟨false,⟨#[115,116,97,102,102]⟩,⟨0,⟨#[68]⟩⟩,⟨#[]⟩⟩⟩
inductive StmR:Policy->List ByteArray->Policy->Prop
 | nil {p:Policy}:StmR p [] p
 | cons {p q r:Policy} {l:ByteArray} {ls:List ByteArray} (h:Zp p l=some (q,true)) (k:StmR q ls r):StmR p (l::ls) r
theorem ZeV {s:ByteArray} {lines:List ByteArray} {p:Policy} (hs:decide ((8192:Int)<(s.size:Int))=false) (hL:ZiJ s=some lines) (hn:decide (lines.length<=1000)=true) (h:StmR ⟨[],[],[]⟩ lines p) (hv:ZeU p=some 0):ZW s=some (p,0,0):=by{
have hn':lines.length<=1000:=of_decide_eq_true hn
refine Zad ?_
unfold ZW
refine Zs hs ?_
refine Za hL ?_
refine Zr (fun a:Int×List Group×List Rule×List Guard=>∃ n:Nat,a.1=n/\n<=lines.length/\StmR ⟨a.2.1,a.2.2.1,a.2.2.2⟩ (lines.drop n) p) (fun a=>((lines.length:Int)-a.1).toNat) ⟨0,rfl,Nat.zero_le _,h⟩ (by first | omega | (dsimp only;omega)) ?_
rintro ⟨i,gs,rs,us⟩ rec ⟨n,hi,hn2,hst⟩ ih
dsimp only at hi hst
subst hi
refine Zd (fun hlt=>?_) fun hlt=>?_
refine Zq (by omega) hlt fun e _ hg=>?_
rw [Int.toNat_natCast] at hg
rw [Zk4 hg] at hst
cases hst with
| cons h1 h2=>
  refine Za h1 ?_
  refine Zs rfl ?_
  rw [Zn]
  exact ih _ ⟨n+1,by dsimp only;omega,by omega,h2⟩ (by first | omega | (dsimp only;omega))
rw [List.drop_of_length_le (by omega)] at hst
cases hst
refine Za hv ?_
exact Zs rfl (Zc rfl)}
inductive StmP:Policy->List ByteArray->Policy->Prop
 | nil {p:Policy}:StmP p [] p
 | cons {p q r:Policy} {l:ByteArray} {ls:List ByteArray} (h:Zj p l=some (true,q)) (k:StmP q ls r):StmP p (l::ls) r
theorem ZdR {s:ByteArray} {lines:List ByteArray} {p:Policy} (hs:decide ((8192:Int)<(s.size:Int))=false) (hL:strings_Split s ⟨#[10]⟩=some lines) (hn:decide (lines.length<=1000)=true) (h:StmP ⟨[],[],[]⟩ lines p) (hv:ZcJ p=some 0):Zaa s=some (p,0,0):=by{
have hn':lines.length<=1000:=of_decide_eq_true hn
refine Zad ?_
unfold Zaa
refine Zs hs ?_
refine Za hL ?_
refine Zr (fun a:Int×List Group×List Rule×List Guard=>∃ n:Nat,a.1=n/\n<=lines.length/\StmP ⟨a.2.1,a.2.2.1,a.2.2.2⟩ (lines.drop n) p) (fun a=>((lines.length:Int)-a.1).toNat) ⟨0,rfl,Nat.zero_le _,h⟩ (by first | omega | (dsimp only;omega)) ?_
rintro ⟨i,gs,rs,us⟩ rec ⟨n,hi,hn2,hst⟩ ih
dsimp only at hi hst
subst hi
refine Zd (fun hlt=>?_) fun hlt=>?_
refine Zq (by omega) hlt fun e _ hg=>?_
rw [Int.toNat_natCast] at hg
rw [Zk4 hg] at hst
cases hst with
| cons h1 h2=>
  refine Za h1 ?_
  refine Zs rfl ?_
  rw [Zn]
  exact ih _ ⟨n+1,by dsimp only;omega,by omega,h2⟩ (by first | omega | (dsimp only;omega))
rw [List.drop_of_length_le (by omega)] at hst
cases hst
refine Za hv ?_
exact Zs rfl (Zc rfl)}
end
theorem Zlu:Zj polS0 ⟨#[97,108,108,111,119,32,114,101,97,100,32,97,108,108,32,60,97,108,108,62]⟩=some (true,polS1):=by kernel_rfl
theorem Zlv:Zj polS3 ⟨#[97,108,108,111,119,32,100,101,108,101,116,101,32,97,108,108,32,60,97,108,108,62]⟩=some (true,polS4):=by kernel_rfl
theorem Zt5:Zj polS5 ⟨#[103,114,111,117,112,32,115,116,97,102,102,32,97,110,110]⟩=some (true,polS6):=by kernel_rfl
theorem Zzp:Zj ZlL ⟨#[]⟩=some (true,ZlL):=by kernel_rfl
theorem ZxK:Zj polS10 ⟨#[103,117,97,114,100,32,115,116,97,102,102,32,66]⟩=some (true,Zhv):=by kernel_rfl
theorem ZxL:Zj polS12 ⟨#[103,114,111,117,112,32,109,111,114,101,32,98,111,98]⟩=some (true,polS13):=by kernel_rfl
theorem ZxM:Zj polS15 ⟨#[97,108,108,111,119,32,114,101,97,100,32,97,108,108,32,60,67,97,116,101,103,111,114,121,62]⟩=some (true,polS16):=by kernel_rfl
theorem ZxN:Zj polS18 ⟨#[97,108,108,111,119,32,114,101,118,105,101,119,32,115,116,97,102,102,32,60,97,108,108,62]⟩=some (true,polS19):=by kernel_rfl
theorem ZxO:Zj polS21 ⟨#[97,108,108,111,119,32,114,101,97,100,32,115,116,97,102,102,32,60,97,108,108,62]⟩=some (true,polS22):=by kernel_rfl
theorem ZxP:Zj polS5 ⟨#[100,101,110,121,32,114,101,97,100,32,97,108,108,32,66]⟩=some (true,polS24):=by kernel_rfl
theorem ZxQ:Zj polS5 ⟨#[100,101,110,121,32,101,100,105,116,32,97,108,108,32,66]⟩=some (true,polS26):=by kernel_rfl
theorem ZxR:Zj polS6 ⟨#[100,101,110,121,32,114,101,118,105,101,119,32,97,108,108,32,60,97,108,108,62]⟩=some (true,polS28):=by kernel_rfl
theorem ZxS:Zj polS30 ⟨#[103,117,97,114,100,32,115,116,97,102,102,32,68]⟩=some (true,Zhz):=by kernel_rfl
theorem Zlx:Zj polS1 ⟨#[97,108,108,111,119,32,101,100,105,116,32,97,108,108,32,60,97,108,108,62]⟩=some (true,polS2):=by kernel_rfl
theorem Zly:Zj polS4 ⟨#[97,108,108,111,119,32,114,101,118,105,101,119,32,97,108,108,32,60,97,108,108,62]⟩=some (true,polS5):=by kernel_rfl
theorem Zzr:Zj polS6 ⟨#[100,101,110,121,32,114,101,97,100,32,97,108,108,32,65]⟩=some (true,polS7):=by kernel_rfl
theorem ZxW:Zj polS6 ⟨#[103,117,97,114,100,32,115,116,97,102,102,32,65,32,124,32,83]⟩=some (true,polS9):=by kernel_rfl
theorem ZxX:Zj Zhv ⟨#[]⟩=some (true,Zhv):=by kernel_rfl
theorem ZxY:Zj polS13 ⟨#[97,108,108,111,119,32,114,101,97,100,32,97,108,108,32,60,77,97,105,110,62]⟩=some (true,polS14):=by kernel_rfl
theorem ZxZ:Zj polS16 ⟨#[97,108,108,111,119,32,101,100,105,116,32,117,115,101,114,115,32,60,77,97,105,110,62]⟩=some (true,polS17):=by kernel_rfl
theorem Zx0:Zj polS19 ⟨#[97,108,108,111,119,32,109,111,118,101,32,115,116,97,102,102,32,60,97,108,108,62]⟩=some (true,polS20):=by kernel_rfl
theorem Zx1:Zj polS22 ⟨#[97,108,108,111,119,32,101,100,105,116,32,115,116,97,102,102,32,60,97,108,108,62]⟩=some (true,Zhw):=by kernel_rfl
theorem Zx2:Zj polS24 ⟨#[100,101,110,121,32,114,101,97,100,32,97,108,108,32,67,97,116,101,103,111,114,121,58,89]⟩=some (true,Zhx):=by kernel_rfl
theorem Zx3:Zj polS26 ⟨#[100,101,110,121,32,114,101,97,100,32,117,115,101,114,115,32,68]⟩=some (true,Zhy):=by kernel_rfl
theorem Zx4:Zj polS28 ⟨#[97,108,108,111,119,32,114,101,118,105,101,119,32,115,116,97,102,102,32,60,77,97,105,110,62]⟩=some (true,polS29):=by kernel_rfl
theorem Zx5:Zj Zhz ⟨#[]⟩=some (true,Zhz):=by kernel_rfl
theorem Zkv:Zj polS2 ⟨#[97,108,108,111,119,32,109,111,118,101,32,97,108,108,32,60,97,108,108,62]⟩=some (true,polS3):=by kernel_rfl
theorem Zwa:Zj polS5 ⟨#[]⟩=some (true,polS5):=by kernel_rfl
theorem Zym:Zj polS7 ⟨#[97,108,108,111,119,32,114,101,97,100,32,115,116,97,102,102,32,65,47,67]⟩=some (true,ZlL):=by kernel_rfl
theorem Zwt:Zj polS9 ⟨#[115,116,114,105,99,116,32,115,116,97,102,102,32,84,101,109,112,108,97,116,101,58,84]⟩=some (true,polS10):=by kernel_rfl
theorem Zwu:Zj polS0 ⟨#[103,114,111,117,112,32,115,116,97,102,102,32,97,110,110,32,64,109,111,114,101]⟩=some (true,polS12):=by kernel_rfl
theorem Zwv:Zj polS14 ⟨#[97,108,108,111,119,32,114,101,97,100,32,97,108,108,32,60,84,101,109,112,108,97,116,101,62]⟩=some (true,polS15):=by kernel_rfl
theorem Zww:Zj polS17 ⟨#[97,108,108,111,119,32,101,100,105,116,32,115,116,97,102,102,32,60,67,97,116,101,103,111,114,121,62]⟩=some (true,polS18):=by kernel_rfl
theorem Zwx:Zj polS20 ⟨#[97,108,108,111,119,32,100,101,108,101,116,101,32,115,116,97,102,102,32,60,97,108,108,62]⟩=some (true,polS21):=by kernel_rfl
theorem Zwy:Zj Zhw ⟨#[]⟩=some (true,Zhw):=by kernel_rfl
theorem Zwz:Zj Zhx ⟨#[]⟩=some (true,Zhx):=by kernel_rfl
theorem ZwA:Zj Zhy ⟨#[]⟩=some (true,Zhy):=by kernel_rfl
theorem ZwB:Zj polS29 ⟨#[103,117,97,114,100,32,115,116,97,102,102,32,65]⟩=some (true,polS30):=by kernel_rfl
section
open Go.RowKit
def Zn6:List UInt8->List UInt8->List (List UInt8) | a,[]=>[a] | a,c::r=>if c.toNat=10 then a::Zn6 [] r else Zn6 (a ++ [c]) r
theorem ZhK:∀ (s a r:List UInt8),(∀ k:Nat,s[k]?≠some 10)->Zn6 a (s++r)=Zn6 (a++s) r
 | [],a,r,_=>by simp
 | c::s,a,r,h=>by
   have h0:c.toNat≠10:=fun e=>h 0 (by simp;exact UInt8.toNat_inj.1 e)
   rw [List.cons_append,Zn6,if_neg h0,ZhK s (a ++ [c]) r (fun k=>by have:=h (k+1);simpa using this),List.append_assoc]
   rfl
theorem ZjH:∀ (k:Nat) (s:ByteArray),Lib.countB s ⟨#[10]⟩=k->(Lib.splitB ⟨#[10]⟩ 0 k s).map (·.data.toList)=Zn6 [] s.data.toList
 | k,s,hk=>by
   have h1:Lib.indexB s ⟨#[10]⟩=Lib.indexByte s.data.toList 10:=Lib.index_one _ _
   rcases Lib.indexB_cases s ⟨#[10]⟩ with hi | ⟨i,hi,hlt⟩
   ·rw [Lib.splitB_miss _ _ _ _ hi]
    have:=ZhK s.data.toList [] [] (Lib.indexByte_none (h1.symm.trans hi))
    rw [List.append_nil] at this
    rw [this]
    rfl
   ·have hc:=Lib.countB_hit s ⟨#[10]⟩ i (by decide) hi
    obtain ⟨k',rfl⟩:∃ k',k=k'+1:=⟨k-1,by omega⟩
    rw [Lib.splitB_hit _ _ _ _ i hi,List.map_cons,ZjH k' _ (by omega)]
    have he:(⟨#[10]⟩:ByteArray).size=1:=rfl
    rw [he,Lib.extract_to_end,Lib.extract_data]
    obtain ⟨h2,h3⟩:=Lib.indexByte_some (h1.symm.trans hi)
    have hil:=(List.getElem?_eq_some_iff.1 h2).1
    have hsplit:s.data.toList=s.data.toList.take i++(10::s.data.toList.drop (i+1)):=by
     have h4:s.data.toList.drop i=10::s.data.toList.drop (i+1):=by
      rw [List.drop_eq_getElem_cons hil]
      rw [List.getElem?_eq_getElem hil] at h2
      rw [Option.some.inj h2]
     rw [<- h4,List.take_append_drop]
    conv=>rhs;rw [hsplit]
    rw [ZhK _ [] _ (fun k hk=>by
     rw [List.getElem?_take] at hk
     split at hk
     ·rename_i hki;exact h3 k hki hk
     ·cases hk),Zn6,if_pos (by decide)]
    simp
theorem ZdF {s:ByteArray} {lines:List ByteArray} (hs:decide (s.size<=8192)=true) (h:((Zn6 [] s.data.toList).map fun l=>(⟨l.toArray⟩:ByteArray))=lines):strings_Split s ⟨#[10]⟩=some lines:=by{
have hs:=of_decide_eq_true hs
have hc:=Lib.countB_le ⟨#[10]⟩ (by decide) s.size s (Nat.le_refl _)
unfold strings_Split
rw [if_pos ⟨⟨by omega,by decide⟩,by omega⟩,<- h,<- ZjH _ s rfl,List.map_map]
refine congrArg some ?_
conv=>lhs;rw [<- List.map_id (Lib.splitB _ _ _ _)]
rfl}
end
theorem ZvF:Zaa ZwT=some (polS5,0,0):=ZdR (by kernel_rfl) (ZdF (by kernel_rfl) (by kernel_rfl)) (by kernel_rfl) (.cons Zlu (.cons Zlx (.cons Zkv (.cons Zlv (.cons Zly (.cons Zwa .nil)))))) (by kernel_rfl)
theorem ZvG:Zaa ZwU=some (ZlL,0,0):=ZdR (by kernel_rfl) (ZdF (by kernel_rfl) (by kernel_rfl)) (by kernel_rfl) (.cons Zlu (.cons Zlx (.cons Zkv (.cons Zlv (.cons Zly (.cons Zt5 (.cons Zzr (.cons Zym (.cons Zzp .nil))))))))) (by kernel_rfl)
theorem ZvH:Zaa ZwV=some (Zhv,0,0):=ZdR (by kernel_rfl) (ZdF (by kernel_rfl) (by kernel_rfl)) (by kernel_rfl) (.cons Zlu (.cons Zlx (.cons Zkv (.cons Zlv (.cons Zly (.cons Zt5 (.cons ZxW (.cons Zwt (.cons ZxK (.cons ZxX .nil)))))))))) (by kernel_rfl)
theorem ZvI:Zaa ZwW=some (Zhw,0,0):=ZdR (by kernel_rfl) (ZdF (by kernel_rfl) (by kernel_rfl)) (by kernel_rfl) (.cons Zwu (.cons ZxL (.cons ZxY (.cons Zwv (.cons ZxM (.cons ZxZ (.cons Zww (.cons ZxN (.cons Zx0 (.cons Zwx (.cons ZxO (.cons Zx1 (.cons Zwy .nil))))))))))))) (by kernel_rfl)
theorem ZvJ:Zaa ZwX=some (Zhx,0,0):=ZdR (by kernel_rfl) (ZdF (by kernel_rfl) (by kernel_rfl)) (by kernel_rfl) (.cons Zlu (.cons Zlx (.cons Zkv (.cons Zlv (.cons Zly (.cons ZxP (.cons Zx2 (.cons Zwz .nil)))))))) (by kernel_rfl)
theorem ZvK:Zaa ZwY=some (Zhy,0,0):=ZdR (by kernel_rfl) (ZdF (by kernel_rfl) (by kernel_rfl)) (by kernel_rfl) (.cons Zlu (.cons Zlx (.cons Zkv (.cons Zlv (.cons Zly (.cons ZxQ (.cons Zx3 (.cons ZwA .nil)))))))) (by kernel_rfl)
theorem ZvL:Zaa ZwZ=some (polS5,0,0):=ZdR (by kernel_rfl) (ZdF (by kernel_rfl) (by kernel_rfl)) (by kernel_rfl) (.cons Zlu (.cons Zlx (.cons Zkv (.cons Zlv (.cons Zly (.cons Zwa .nil)))))) (by kernel_rfl)
theorem ZvM:Zaa Zw0=some (Zhz,0,0):=ZdR (by kernel_rfl) (ZdF (by kernel_rfl) (by kernel_rfl)) (by kernel_rfl) (.cons Zlu (.cons Zlx (.cons Zkv (.cons Zlv (.cons Zly (.cons Zt5 (.cons ZxR (.cons Zx4 (.cons ZwB (.cons ZxS (.cons Zx5 .nil))))))))))) (by kernel_rfl)
theorem Zqz:Zp polS0 ⟨#[97,108,108,111,119,32,114,101,97,100,32,97,108,108,32,60,97,108,108,62]⟩=some (polS1,true):=by kernel_rfl
theorem ZqA:Zp polS3 ⟨#[97,108,108,111,119,32,100,101,108,101,116,101,32,97,108,108,32,60,97,108,108,62]⟩=some (polS4,true):=by kernel_rfl
theorem Zyg:Zp polS5 ⟨#[103,114,111,117,112,32,115,116,97,102,102,32,97,110,110]⟩=some (polS6,true):=by kernel_rfl
theorem ZAb:Zp ZlL ⟨#[]⟩=some (ZlL,true):=by kernel_rfl
theorem Zzy:Zp polS10 ⟨#[103,117,97,114,100,32,115,116,97,102,102,32,66]⟩=some (Zhv,true):=by kernel_rfl
theorem Zzz:Zp polS12 ⟨#[103,114,111,117,112,32,109,111,114,101,32,98,111,98]⟩=some (polS13,true):=by kernel_rfl
theorem ZzA:Zp polS15 ⟨#[97,108,108,111,119,32,114,101,97,100,32,97,108,108,32,60,67,97,116,101,103,111,114,121,62]⟩=some (polS16,true):=by kernel_rfl
theorem ZzB:Zp polS18 ⟨#[97,108,108,111,119,32,114,101,118,105,101,119,32,115,116,97,102,102,32,60,97,108,108,62]⟩=some (polS19,true):=by kernel_rfl
theorem ZzC:Zp polS21 ⟨#[97,108,108,111,119,32,114,101,97,100,32,115,116,97,102,102,32,60,97,108,108,62]⟩=some (polS22,true):=by kernel_rfl
theorem ZzD:Zp polS5 ⟨#[100,101,110,121,32,114,101,97,100,32,97,108,108,32,66]⟩=some (polS24,true):=by kernel_rfl
theorem ZzE:Zp polS5 ⟨#[100,101,110,121,32,101,100,105,116,32,97,108,108,32,66]⟩=some (polS26,true):=by kernel_rfl
theorem ZzF:Zp polS6 ⟨#[100,101,110,121,32,114,101,118,105,101,119,32,97,108,108,32,60,97,108,108,62]⟩=some (polS28,true):=by kernel_rfl
theorem ZzG:Zp polS30 ⟨#[103,117,97,114,100,32,115,116,97,102,102,32,68]⟩=some (Zhz,true):=by kernel_rfl
theorem Zqd:Zp polS1 ⟨#[97,108,108,111,119,32,101,100,105,116,32,97,108,108,32,60,97,108,108,62]⟩=some (polS2,true):=by kernel_rfl
theorem Zqe:Zp polS4 ⟨#[97,108,108,111,119,32,114,101,118,105,101,119,32,97,108,108,32,60,97,108,108,62]⟩=some (polS5,true):=by kernel_rfl
theorem Zz2:Zp polS6 ⟨#[100,101,110,121,32,114,101,97,100,32,97,108,108,32,65]⟩=some (polS7,true):=by kernel_rfl
theorem Zy8:Zp polS6 ⟨#[103,117,97,114,100,32,115,116,97,102,102,32,65,32,124,32,83]⟩=some (polS9,true):=by kernel_rfl
theorem Zy9:Zp Zhv ⟨#[]⟩=some (Zhv,true):=by kernel_rfl
theorem Zza:Zp polS13 ⟨#[97,108,108,111,119,32,114,101,97,100,32,97,108,108,32,60,77,97,105,110,62]⟩=some (polS14,true):=by kernel_rfl
theorem Zzb:Zp polS16 ⟨#[97,108,108,111,119,32,101,100,105,116,32,117,115,101,114,115,32,60,77,97,105,110,62]⟩=some (polS17,true):=by kernel_rfl
theorem Zzc:Zp polS19 ⟨#[97,108,108,111,119,32,109,111,118,101,32,115,116,97,102,102,32,60,97,108,108,62]⟩=some (polS20,true):=by kernel_rfl
theorem Zzd:Zp polS22 ⟨#[97,108,108,111,119,32,101,100,105,116,32,115,116,97,102,102,32,60,97,108,108,62]⟩=some (Zhw,true):=by kernel_rfl
theorem Zze:Zp polS24 ⟨#[100,101,110,121,32,114,101,97,100,32,97,108,108,32,67,97,116,101,103,111,114,121,58,89]⟩=some (Zhx,true):=by kernel_rfl
theorem Zzf:Zp polS26 ⟨#[100,101,110,121,32,114,101,97,100,32,117,115,101,114,115,32,68]⟩=some (Zhy,true):=by kernel_rfl
theorem Zzg:Zp polS28 ⟨#[97,108,108,111,119,32,114,101,118,105,101,119,32,115,116,97,102,102,32,60,77,97,105,110,62]⟩=some (polS29,true):=by kernel_rfl
theorem Zzh:Zp Zhz ⟨#[]⟩=some (Zhz,true):=by kernel_rfl
theorem ZpF:Zp polS2 ⟨#[97,108,108,111,119,32,109,111,118,101,32,97,108,108,32,60,97,108,108,62]⟩=some (polS3,true):=by kernel_rfl
theorem ZyE:Zp polS5 ⟨#[]⟩=some (polS5,true):=by kernel_rfl
theorem ZzT:Zp polS7 ⟨#[97,108,108,111,119,32,114,101,97,100,32,115,116,97,102,102,32,65,47,67]⟩=some (ZlL,true):=by kernel_rfl
theorem ZyF:Zp polS9 ⟨#[115,116,114,105,99,116,32,115,116,97,102,102,32,84,101,109,112,108,97,116,101,58,84]⟩=some (polS10,true):=by kernel_rfl
theorem ZyG:Zp polS0 ⟨#[103,114,111,117,112,32,115,116,97,102,102,32,97,110,110,32,64,109,111,114,101]⟩=some (polS12,true):=by kernel_rfl
theorem ZyH:Zp polS14 ⟨#[97,108,108,111,119,32,114,101,97,100,32,97,108,108,32,60,84,101,109,112,108,97,116,101,62]⟩=some (polS15,true):=by kernel_rfl
theorem ZyI:Zp polS17 ⟨#[97,108,108,111,119,32,101,100,105,116,32,115,116,97,102,102,32,60,67,97,116,101,103,111,114,121,62]⟩=some (polS18,true):=by kernel_rfl
theorem ZyJ:Zp polS20 ⟨#[97,108,108,111,119,32,100,101,108,101,116,101,32,115,116,97,102,102,32,60,97,108,108,62]⟩=some (polS21,true):=by kernel_rfl
theorem ZyK:Zp Zhw ⟨#[]⟩=some (Zhw,true):=by kernel_rfl
theorem ZyL:Zp Zhx ⟨#[]⟩=some (Zhx,true):=by kernel_rfl
theorem ZyM:Zp Zhy ⟨#[]⟩=some (Zhy,true):=by kernel_rfl
theorem ZyN:Zp polS29 ⟨#[103,117,97,114,100,32,115,116,97,102,102,32,65]⟩=some (polS30,true):=by kernel_rfl
theorem Zss:ZW ZwT=some (polS5,0,0):=ZeV (by kernel_rfl) (by kernel_rfl) (by kernel_rfl) (.cons Zqz (.cons Zqd (.cons ZpF (.cons ZqA (.cons Zqe (.cons ZyE .nil)))))) (by kernel_rfl)
theorem Zst:ZW ZwU=some (ZlL,0,0):=ZeV (by kernel_rfl) (by kernel_rfl) (by kernel_rfl) (.cons Zqz (.cons Zqd (.cons ZpF (.cons ZqA (.cons Zqe (.cons Zyg (.cons Zz2 (.cons ZzT (.cons ZAb .nil))))))))) (by kernel_rfl)
theorem Zsu:ZW ZwV=some (Zhv,0,0):=ZeV (by kernel_rfl) (by kernel_rfl) (by kernel_rfl) (.cons Zqz (.cons Zqd (.cons ZpF (.cons ZqA (.cons Zqe (.cons Zyg (.cons Zy8 (.cons ZyF (.cons Zzy (.cons Zy9 .nil)))))))))) (by kernel_rfl)
theorem Zsv:ZW ZwW=some (Zhw,0,0):=ZeV (by kernel_rfl) (by kernel_rfl) (by kernel_rfl) (.cons ZyG (.cons Zzz (.cons Zza (.cons ZyH (.cons ZzA (.cons Zzb (.cons ZyI (.cons ZzB (.cons Zzc (.cons ZyJ (.cons ZzC (.cons Zzd (.cons ZyK .nil))))))))))))) (by kernel_rfl)
theorem Zsw:ZW ZwX=some (Zhx,0,0):=ZeV (by kernel_rfl) (by kernel_rfl) (by kernel_rfl) (.cons Zqz (.cons Zqd (.cons ZpF (.cons ZqA (.cons Zqe (.cons ZzD (.cons Zze (.cons ZyL .nil)))))))) (by kernel_rfl)
theorem Zsx:ZW ZwY=some (Zhy,0,0):=ZeV (by kernel_rfl) (by kernel_rfl) (by kernel_rfl) (.cons Zqz (.cons Zqd (.cons ZpF (.cons ZqA (.cons Zqe (.cons ZzE (.cons Zzf (.cons ZyM .nil)))))))) (by kernel_rfl)
theorem Zsy:ZW ZwZ=some (polS5,0,0):=ZeV (by kernel_rfl) (by kernel_rfl) (by kernel_rfl) (.cons Zqz (.cons Zqd (.cons ZpF (.cons ZqA (.cons Zqe (.cons ZyE .nil)))))) (by kernel_rfl)
theorem Zsz:ZW Zw0=some (Zhz,0,0):=ZeV (by kernel_rfl) (by kernel_rfl) (by kernel_rfl) (.cons Zqz (.cons Zqd (.cons ZpF (.cons ZqA (.cons Zqe (.cons Zyg (.cons ZzF (.cons Zzg (.cons ZyN (.cons ZzG (.cons Zzh .nil))))))))))) (by kernel_rfl)
section
open VL
theorem ZiG:∀ t ∈ policyG,∃ p,ZW t=some (p,0,0):=by{
intro t ht
unfold policyG at ht
rcases List.mem_cons.1 ht with e | ht
exact ⟨_,e ▸ Zss⟩
rcases List.mem_cons.1 ht with e | ht
exact ⟨_,e ▸ Zst⟩
rcases List.mem_cons.1 ht with e | ht
exact ⟨_,e ▸ Zsu⟩
rcases List.mem_cons.1 ht with e | ht
exact ⟨_,e ▸ Zsv⟩
rcases List.mem_cons.1 ht with e | ht
exact ⟨_,e ▸ Zsw⟩
rcases List.mem_cons.1 ht with e | ht
exact ⟨_,e ▸ Zsx⟩
rcases List.mem_cons.1 ht with e | ht
exact ⟨_,e ▸ Zsy⟩
rcases List.mem_cons.1 ht with e | ht
exact ⟨_,e ▸ Zsz⟩
cases ht}
theorem Znh:policyG.all (fun t=>decide (t.size<=8192))=true:=by kernel_rfl
theorem ZoG (t:ByteArray) (h:t ∈ policyG):t.size<=8192:=of_decide_eq_true (List.all_eq_true.1 Znh t h)
def begun (t:ByteArray):State:=⟨1,0,[⟨policyT,[⟨1,⟨#[]⟩,⟨#[]⟩,t,0,1⟩]⟩],[],[],0,[],[]⟩
def Ztt:State:=⟨0,0,[],[],[],0,[],[]⟩
def ZoH (t:ByteArray):Change:=⟨1,⟨#[]⟩,⟨#[]⟩,policyT,⟨0,⟨#[]⟩⟩,t,0,[]⟩
theorem Zr3:Zfj Ztt=some true:=by kernel_rfl
theorem ZiH:policyT.valid=true:=by kernel_rfl
theorem Zvx {α β:Type} (F:(α->Option β)->α->Option β) (a:α):ZE Zaq F a=F (ZE 4611686018427387903 F) a:=rfl
theorem Zvy {α β:Type} (F:(α->Option β)->α->Option β) (a:α):ZE 4611686018427387903 F a=F (ZE 4611686018427387902 F) a:=rfl
theorem Ztu (t:ByteArray) (ht:t.size<=8192):ZdU (ZoH t)=some 0:=by{
refine Zad ?_
unfold ZdU
refine Za (v:=true) ?_ ?_
rfl
refine Zs rfl ?_
refine Za (v:=true) ?_ ?_
refine Zad ?_
unfold Zes
refine Zap ?_
refine Zak (fun _=>?_) fun h=>absurd (show (1:Int)=6 from h) (by decide)
refine Zak (fun _=>?_) fun h=>absurd (show (1:Int)=10 from h) (by decide)
refine Za (v:=true) (by show some policyT.valid=_;rw [ZiH]) ?_
refine Zs rfl ?_
refine Za (Zjc _) ?_
exact Zc rfl
refine Zs rfl ?_
refine Zap ?_
refine Zd (fun h=>absurd h (by show ¬ 8192<(t.size:Int);omega)) fun _=>?_
refine Zs rfl ?_
exact Zc rfl}
theorem Zxw (t:ByteArray) (ht:t.size<=8192) (hp:∃ p n,ZW t=some (p,n,0)):Zha t=some (begun t):=by{
obtain ⟨p,n,hp⟩:=hp
refine Zad ?_
unfold Zha
refine Za (v:=policyT) rfl ?_
refine Za (v:=(begun t,0)) ?_ (Zc rfl)
refine Zad ?_
unfold Zay
refine Za Zr3 ?_
refine Zs rfl ?_
refine Zap ?_
refine Zd (fun h=>absurd (show (1:Int)<1 from h) (by decide)) fun _=>?_
refine Zs rfl ?_
rw [Zvx]
dsimp only
refine ZH rfl ?_
refine Za (v:=ZoH t) rfl ?_
refine Za (Ztu t ht) ?_
refine Zs rfl ?_
refine Za (v:=ZoH t) rfl ?_
refine Za (v:=(⟨0,0,[⟨policyT,[⟨1,⟨#[]⟩,⟨#[]⟩,t,0,1⟩]⟩],[],[],0,[],[]⟩,0)) rfl ?_
refine Zs rfl ?_
refine Za (v:=ZoH t) rfl ?_
refine Za (v:=false) ?_ ?_
refine Zad ?_
unfold ZbE
refine ZH rfl ?_
refine Za (v:=policyT) rfl ?_
refine Zak (fun h=>absurd rfl h) fun _=>?_
refine Za hp ?_
exact Zc rfl
refine Zs rfl ?_
refine Za (v:=ZoH t) rfl ?_
refine Za (v:=(⟨0,0,[⟨policyT,[⟨1,⟨#[]⟩,⟨#[]⟩,t,0,1⟩]⟩],[],[],0,[],[]⟩,0)) rfl ?_
refine Zs rfl ?_
rw [Zvy]
exact Zc rfl}
theorem Zvz (t:ByteArray) (ht:t.size<=8192):VS t 1 (begun t):=by{
refine ⟨by show (0:Int)<=1;decide,by show (0:Int)<=0;decide,by show (0:Int)<=52595999;decide,by simp [begun],by simp [begun],fun p hp=>?_,fun p hp=>by simp [begun] at hp,List.pairwise_singleton ..,fun p hp _=>?_,by simp [begun],by show (0:Int)<=0;decide,by show (0:Int)<=1073741824;decide,(fun p hp=>by simp [begun] at hp),(fun p hp=>by simp [begun] at hp),List.Pairwise.nil,by simp [begun],fun p hp=>by simp [begun] at hp,List.Pairwise.nil,by simp [begun],fun p hp=>by simp [begun] at hp,List.Pairwise.nil⟩
simp [begun] at hp
subst hp
refine ⟨ZiH,by simp,by simp,fun i r hr=>?_,fun r hr=>?_,List.pairwise_singleton ..⟩
cases i with
| zero=>injection hr with hr;subst hr;rfl
| succ i=>simp at hr
simp at hr
subst hr
exact ⟨ht,Nat.zero_le _,rfl,Int.le_refl _,Int.le_refl _,Int.le_refl _,Int.le_refl _⟩
simp [begun] at hp
subst hp
rfl}
structure Made (s:State) (m:Int):Prop where
 ex:∃ t ∈ policyG,VS t s.seq s
 seq:s.seq<=m
 clock:s.clock<=4000 * m
theorem Zr4 {s:State} {m:Int} {l:List Change} (h:Made s m) (hm:m<=1000) (hl:∀ c ∈ l,c.tame) (hn:l.length<=2):Tot (Zay s l) fun r=>r.2=0->Made r.1 (m+1):=by{
obtain ⟨⟨t,ht,hv⟩,h1,h2⟩:=h
obtain ⟨p,hp⟩:=ZiG t ht
have hs:s.seq<1073741824:=by omega
refine (ZxF hv hs ⟨p,0,hp⟩ hl (by omega)).mono fun r hr h0=>?_
obtain ⟨k1,k2,k3,k4⟩:=hr h0
exact ⟨⟨t,ht,k1⟩,by omega,by omega⟩}
theorem Made.mono {s:State} {m m':Int} (h:Made s m) (hm:m<=m'):Made s m':=⟨h.ex,Int.le_trans h.seq hm,by have:=h.clock;omega⟩
def polsG:List Policy:=[polS0,polS5,ZlL,Zhv,Zhw,Zhx,Zhy,Zhz]
theorem Zzm:polS0 ∈ polsG:=.head _
theorem Zql:∀ t ∈ policyG,∃ p ∈ polsG,ZW t=some (p,0,0)/\Zaa t=some (p,0,0):=by{
intro t ht
unfold policyG at ht
rcases List.mem_cons.1 ht with e | ht
exact ⟨polS5,.tail _ (.head _),e ▸ Zss,e ▸ ZvF⟩
rcases List.mem_cons.1 ht with e | ht
exact ⟨ZlL,.tail _ (.tail _ (.head _)),e ▸ Zst,e ▸ ZvG⟩
rcases List.mem_cons.1 ht with e | ht
exact ⟨Zhv,.tail _ (.tail _ (.tail _ (.head _))),e ▸ Zsu,e ▸ ZvH⟩
rcases List.mem_cons.1 ht with e | ht
exact ⟨Zhw,.tail _ (.tail _ (.tail _ (.tail _ (.head _)))),e ▸ Zsv,e ▸ ZvI⟩
rcases List.mem_cons.1 ht with e | ht
exact ⟨Zhx,.tail _ (.tail _ (.tail _ (.tail _ (.tail _ (.head _))))),e ▸ Zsw,e ▸ ZvJ⟩
rcases List.mem_cons.1 ht with e | ht
exact ⟨Zhy,.tail _ (.tail _ (.tail _ (.tail _ (.tail _ (.tail _ (.head _)))))),e ▸ Zsx,e ▸ ZvK⟩
rcases List.mem_cons.1 ht with e | ht
exact ⟨polS5,.tail _ (.head _),e ▸ Zsy,e ▸ ZvL⟩
rcases List.mem_cons.1 ht with e | ht
exact ⟨Zhz,.tail _ (.tail _ (.tail _ (.tail _ (.tail _ (.tail _ (.tail _ (.head _))))))),e ▸ Zsz,e ▸ ZvM⟩
cases ht}
theorem ZoW:polsG.all (fun p=>decide (p.rules.length<=100)&&decide (p.guards.length<=100)&&decide (p.groups.length<=100)&&p.groups.all (fun g=>decide (g.members.length<=100)))=true:=by kernel_rfl
theorem Zkn (p:Policy) (h:p ∈ polsG):p.rules.length<=100/\p.guards.length<=100/\p.groups.length<=100/\∀ g ∈ p.groups,g.members.length<=100:=by
 have:=List.all_eq_true.1 ZoW p h
 simp only [Bool.and_eq_true,decide_eq_true_eq,List.all_eq_true] at this
 exact ⟨this.1.1.1,this.1.1.2,this.1.2,this.2⟩
theorem ZtT (s:State) (t:Title) (hl:s.pages.length<=1000000):Tot (ZbY s t) fun r=>(r=(⟨⟨0,⟨#[]⟩⟩,[]⟩,false)/\∀ p ∈ s.pages,p.title≠t)\/(r.2=true/\r.1 ∈ s.pages/\r.1.title=t):=by{
unfold ZbY
refine Zh (Zgt s.pages t hl) fun r hr=>?_
rcases hr with ⟨rfl,h⟩ | ⟨n,p,rfl,h1,h2⟩
exact Zd (fun _=>Zc (.inl ⟨rfl,h⟩)) fun c=>absurd (by omega) c
refine Zd (fun c=>absurd c (by omega)) fun _=>?_
have:=(List.getElem?_eq_some_iff.1 h1).1
refine Zq (by omega) (by omega) fun e he hg=>Zc (.inr ⟨rfl,he,?_⟩)
rw [Int.toNat_natCast,h1] at hg
injection hg with hg
rw [<- hg]
exact h2}
def ZtU (p:Stored):Revision:=p.history.getLast?.getD ⟨0,⟨#[]⟩,⟨#[]⟩,⟨#[]⟩,0,0⟩
theorem Zmy (p:Stored) (h0:1<=p.history.length) (hl:p.history.length<=1000000):Zct p=some (ZtU p):=by{
obtain ⟨r,h1,h2⟩:=ZkI p h0 hl
rw [h2]
unfold ZtU
rw [h1]
rfl}
theorem Zqm (p:Stored) (h0:1<=p.history.length) (hl:p.history.length<=1000000):Zee p=some (ZtU p):=by
 rw [<- Zmy p h0 hl]
 rfl
theorem ZtV (l:List Revision) (h1:1<=l.length) (hl:l.length<=1000000):ZaM l=some l:=by{
refine Zad ?_
unfold ZaM
refine Za (v:=()) ?_ ?_
cases l with
| nil=>cases h1
| cons=>rfl
refine ZC 1000000 (by simpa using hl) (by decide) (by decide) ?_
exact Zc rfl}
theorem Zqn (s:State) (t:Title) (hl:s.pages.length<=1000000) (hh:∀ p ∈ s.pages,1<=p.history.length/\p.history.length<=1000000):Tot (Zbs s t) fun r=>(r.2=false/\∀ p ∈ s.pages,p.title≠t)\/(r.2=true/\r.1 ∈ s.pages/\r.1.title=t):=by{
unfold Zbs
refine Zr (fun i:Int=>(0<=i/\i<=(s.pages.length:Int))/\∀ (j:Nat) p,(j:Int)<i->s.pages[j]? = some p->p.title≠t) (fun i=>((s.pages.length:Int)-i).toNat) ⟨⟨by omega,by omega⟩,fun j p h=>by omega⟩ (by first | omega | (dsimp only;omega)) ?_
rintro i rec ⟨⟨h0,h1⟩,h2⟩ ih
refine Zd (fun hlt=>?_) fun hlt=>?_
refine Zq h0 hlt fun e he hg=>?_
refine Zd (fun ht=>?_) fun ht=>?_
refine Za (v:=e) ?_ (Zc (.inr ⟨rfl,he,ht⟩))
unfold ZcV
rw [ZtV _ (hh e he).1 (hh e he).2]
rfl
rw [Zn]
refine ih _ ⟨⟨by omega,by omega⟩,fun j p hj hp=>?_⟩ (by omega)
by_cases hji:(j:Int)<i
exact h2 j p hji hp
rw [show i.toNat=j by omega,hp] at hg
injection hg with hg
rw [hg]
exact ht
refine Zc (.inl ⟨rfl,fun p hp=>?_⟩)
obtain ⟨j,hj,rfl⟩:=List.getElem_of_mem hp
exact h2 j _ (by omega) (List.getElem?_eq_getElem hj)}
def ZiR (l:List Stored):Bool:=l.any fun p=>decide (p.title=policyT)
theorem Zlp {l:List Stored} (h:∀ p ∈ l,p.title≠policyT):ZiR l=false:=by{
unfold ZiR
rw [List.any_eq_false]
intro p hp
simpa using h p hp}
theorem Zlq {l:List Stored} {p:Stored} (h:p ∈ l) (ht:p.title=policyT):ZiR l=true:=by
 unfold ZiR
 rw [List.any_eq_true]
 exact ⟨p,h,decide_eq_true ht⟩
theorem ZtW {t0:ByteArray} {q:Int} {s:State} (hv:VS t0 q s):∀ p ∈ s.pages,1<=p.history.length/\p.history.length<=1000000:=by{
intro p hp
have hs:=(hv.pages p hp).hist
have a1:=hs.len1
have a2:=hs.len2
exact ⟨a1,by omega⟩}
theorem ZtX {t0:ByteArray} {q:Int} {s:State} (hv:VS t0 q s) {p:Stored} (hp:p ∈ s.pages) (ht:p.title=policyT):(ZtU p).text=t0:=by{
have:=hv.rule p hp ht
unfold ZkH at this
have hs:=(hv.pages p hp).hist
obtain ⟨c,h1,_⟩:=ZkI p hs.len1 (by have:=hs.len2;omega)
unfold ZtU
rw [h1] at this ⊢
exact this}
def ZiS (P0:Policy) (l:List Stored):Policy:=if ZiR l=true then P0 else polS0
theorem Zzn {t0:ByteArray} {q:Int} {s:State} {P0:Policy} (hv:VS t0 q s) (hr:ZW t0=some (P0,0,0)) (hp:Zaa t0=some (P0,0,0)):Zcz s=some (ZiS P0 s.pages)/\ZbB s=some (ZiS P0 s.pages):=by{
have hl:s.pages.length<=1000000:=by have:=hv.plen;omega
have hh:=ZtW hv
constructor
refine Zad ?_
unfold Zcz
refine Za (v:=policyT) rfl ?_
unfold Zkj
refine Zh (Q:=fun r=>(r.2=false/\ZiR s.pages=false)\/(r.2=true/\r.1=t0/\ZiR s.pages=true)) ?_ fun r hr2=>?_
refine Zh (ZtT s policyT hl) fun r h=>?_
rcases h with ⟨rfl,h⟩ | ⟨h1,h2,h3⟩
exact Za (v:=⟨0,⟨#[]⟩,⟨#[]⟩,⟨#[]⟩,0,0⟩) rfl (Zc (.inl ⟨rfl,Zlp h⟩))
refine Za (Zmy r.1 (hh _ h2).1 (hh _ h2).2) (Zc (.inr ⟨h1,ZtX hv h2 h3,Zlq h2 h3⟩))
rcases hr2 with ⟨h1,h2⟩ | ⟨h1,h2,h3⟩
refine ZH (by rw [h1];rfl) (Zc ?_)
unfold ZiS
rw [h2]
rfl
refine Zs (by rw [h1];rfl) ?_
rw [h2]
refine Za hr ?_
refine Zs rfl (Zc ?_)
unfold ZiS
rw [h3]
rfl
refine Zad ?_
unfold ZbB
refine Zh (Zqn s policyT hl hh) fun r h=>?_
rcases h with ⟨h1,h⟩ | ⟨h1,h2,h3⟩
refine ZH (by rw [h1];rfl) (Zc ?_)
unfold ZiS
rw [Zlp h]
rfl
refine Zs (by rw [h1];rfl) ?_
refine Za (Zqm r.1 (hh _ h2).1 (hh _ h2).2) ?_
rw [ZtX hv h2 h3]
refine Za hp ?_
refine Zs rfl (Zc ?_)
unfold ZiS
rw [Zlq h2 h3]
rfl}
theorem ZvR {P0:Policy} (h:P0 ∈ polsG) (l:List Stored):ZiS P0 l ∈ polsG:=by{
unfold ZiS
split
exact h
exact Zzm}
def Znv (x y:Option (List ByteArray)):Bool:=match x,y with | some G,some H=>decide (G=H)&&decide (G.length<=100) | _,_=>false
theorem Zsg {x y:Option (List ByteArray)} (h:Znv x y=true):∃ G,x=some G/\y=some G/\G.length<=100:=by{
cases x with
| none=>cases h
| some G=>
  cases y with
  | none=>cases h
  | some H=>
    simp only [Znv,Bool.and_eq_true,decide_eq_true_eq] at h
    exact ⟨G,rfl,by rw [h.1],h.2⟩}
theorem Zlr:polsG.all (fun p=>usersG.all fun u=>Znv (Zev p u) (Zbb p u))=true:=by kernel_rfl
theorem Zqo (p:Policy) (hp:p ∈ polsG) (u:ByteArray) (hu:u ∈ usersG):∃ G,Zev p u=some G/\Zbb p u=some G/\G.length<=100:=
 Zsg (List.all_eq_true.1 (List.all_eq_true.1 Zlr p hp) u hu)
structure RdAt (s:State) (u:ByteArray) (P:Policy) (G:List ByteArray):Prop where
 pol:P ∈ polsG
 prog:ZbB s=some P
 gprog:Zbb P u=some G
 glen:G.length<=100
theorem Zsh {s:State} {u:ByteArray} {P:Policy} {G:List ByteArray} (h:RdAt s u P G) (hl:s.pages.length<=1000000) (hh:∀ p ∈ s.pages,1<=p.history.length/\p.history.length<=1000000) (t:Title):ZbH s u t=some (s.pages.any (fun p=>decide (p.title=t))&&Zjf P G 1 t):=by{
have hR:=(Zkn _ h.pol).1
refine Zad ?_
unfold ZbH
refine Za h.prog ?_
refine Zh (Zqn s t hl hh) fun r hr=>?_
refine Zap ?_
rcases hr with ⟨h1,h2⟩ | ⟨h1,h2,h3⟩
refine Zs h1 (Zc ?_)
have:s.pages.any (fun p=>decide (p.title=t))=false:=by
 rw [List.any_eq_false]
 intro p hp
 simpa using h2 p hp
rw [this]
rfl
refine ZH h1 ?_
refine Za h.gprog ?_
refine Za (v:=Zjf P G 1 t) (by unfold Zdo;rw [if_pos (by omega)]) (Zc ?_)
have:s.pages.any (fun p=>decide (p.title=t))=true:=by
 rw [List.any_eq_true]
 exact ⟨_,h2,decide_eq_true h3⟩
rw [this]
rfl}
def Par {α:Type} (x:Option α) (Q:α->Prop):Prop:=∀ v,x=some v->Q v
section
variable {α β γ:Type}
theorem Zdg {x:Option α} {Q:α->Prop} (h:Tot x Q):Par x Q:=fun v e=>by
 obtain ⟨w,h1,h2⟩:=h
 rw [h1] at e
 injection e with e
 rw [<- e]
 exact h2
theorem Zv {v:α} {Q:α->Prop} (h:Q v):Par (some v) Q:=fun w e=>by
 injection e with e
 rw [<- e]
 exact h
theorem ZbZ {x:Option α} {f:α->Option β} {Q:α->Prop} {R:β->Prop} (h:Par x Q) (k:∀ v,Q v->Par (f v) R):Par (x.bind f) R:=fun w e=>by
 cases x with
 | none=>cases e
 | some v=>exact k v (h v rfl) w e
theorem Zx {x:Option α} {f:α->Option β} {R:β->Prop} (k:∀ v,x=some v->Par (f v) R):Par (x.bind f) R:=ZbZ (Q:=fun v=>x=some v) (fun _ e=>e) k
theorem Zb7 {b:Bool} {x y:Option β} {R:β->Prop} (h1:b=true->Par x R) (h2:b=false->Par y R):Par (if b=true then x else y) R:=by
 cases b
 exact h2 rfl
 exact h1 rfl
theorem Zy {p:Prop} [Decidable p] {x y:Option β} {R:β->Prop} (h1:p->Par x R) (h2:¬ p->Par y R):Par (if decide p=true then x else y) R:=
 Zb7 (fun e=>h1 (of_decide_eq_true e)) fun e=>h2 (of_decide_eq_false e)
theorem Zbp {k:γ} {f:γ->Option β} {R:β->Prop} (S:γ->Prop) (hk:S k) (hf:∀ q,S q->Par (f q) R):Par (letk k f) R:=hf k hk
theorem ZjM {l:List α} {i:Int} {f:α->Option β} {R:β->Prop} (k:∀ e,l[i.toNat]? = some e->Par (f e) R):Par ((atI l i).bind f) R:=Zx fun e he=>k e (Zja he).2
theorem Ze8 {w:Nat} {a b:List α} {f:List α->Option β} {R:β->Prop} (k:Par (f (a++b)) R):Par ((Zbo w a b).bind f) R:=Zx fun v hv=>by
 unfold Zbo at hv
 split at hv
 injection hv with hv
 rw [<- hv]
 exact k
 cases hv
theorem ZhR {F:(α->Option β)->α->Option β} {R:β->Prop} (J:α->Prop) (h:∀ a rec,J a->(∀ a',J a'->Par (rec a') R)->Par (F rec a) R):∀ (n:Nat) (a:α),J a->Par (ZE n F a) R
 | 0,_,_=>fun _ e=>by cases e
 | n+1,a,ha=>h a _ ha fun a' ha'=>ZhR J h n a' ha'
end
def Fr (q:Title->Bool) (s:State) (r:State×Int):Prop:=r.2=0->r.1.clock=s.clock/\r.1.pages.filter (fun p=>q p.title)=s.pages.filter (fun p=>q p.title)
theorem Zc9 {q:Title->Bool} {s s':State} {e:Int} (h:e≠0):Fr q s (s',e):=fun h'=>absurd h' h
theorem Zk0 {q:Title->Bool} {s:State} {r:State×Int} (h1:r.1.clock=s.clock) (h2:r.1.pages=s.pages):Fr q s r:=fun _=>⟨h1,by rw [h2]⟩
theorem Zix {q:Title->Bool} (l:List Stored) (p:Stored) (n:Nat) (h:q p.title=false):(l.take n++p::l.drop n).filter (fun p=>q p.title)=l.filter (fun p=>q p.title):=by
 rw [List.filter_append,List.filter_cons_of_neg (by simp [h]),<- List.filter_append,List.take_append_drop]
theorem Zna {q:Title->Bool} {l:List Stored} {p:Stored} {n:Nat} (hn:l[n]? = some p) (h:q p.title=false):(l.take n++l.drop (n+1)).filter (fun p=>q p.title)=l.filter (fun p=>q p.title):=by
 obtain ⟨hl,rfl⟩:=List.getElem?_eq_some_iff.1 hn
 conv=>rhs;rw [<- List.take_append_drop n l,List.drop_eq_getElem_cons hl]
 rw [List.filter_append,List.filter_append,List.filter_cons_of_neg (by simp [h])]
theorem Zve {q:Title->Bool} {l:List Stored} {p p':Stored} {n:Nat} (hn:l[n]? = some p) (h:q p.title=false) (h':q p'.title=false):(l.set n p').filter (fun p=>q p.title)=l.filter (fun p=>q p.title):=by
 obtain ⟨hl,rfl⟩:=List.getElem?_eq_some_iff.1 hn
 rw [List.set_eq_take_append_cons_drop,if_pos hl,List.filter_append,List.filter_cons_of_neg (by simp [h']),<- List.filter_append,Zna hn h]
theorem ZyW {q:Title->Bool} {s:State} {c:Change} {z:Int} (hl:s.pages.length<=1000000) (h:q c.title=false):Par (Zgc s c z) (Fr q s):=by{
unfold Zgc
refine ZbZ (Zdg (Zgt s.pages c.title hl)) fun r hr=>?_
refine Zy (fun h0=>?_) fun h0=>?_
refine Zy (fun _=>Zv (Zc9 (by decide))) fun _=>?_
refine ZbZ (Zdg (Zdz s.pages _ hl)) fun r hr=>?_
obtain ⟨n,_,rfl,_,_⟩:=hr
exact Zv fun _=>⟨rfl,Zix _ _ _ h⟩
rcases hr with ⟨rfl,_⟩ | ⟨n,p,rfl,hn,ht⟩
exact absurd (by decide) h0
refine ZjM fun e he=>?_
refine Zy (fun _=>Zv (Zc9 (by decide))) fun _=>?_
refine Ze8 ?_
refine Ze8 ?_
refine Ze8 ?_
refine ZjM fun e' he'=>?_
rw [Zjs] at he' ⊢
have e1:e'=p:=by
 rw [Int.toNat_natCast,hn] at he'
 injection he' with he'
 exact he'.symm
subst e1
refine Zv fun _=>⟨rfl,?_⟩
unfold ZbF
exact Zve hn (by rw [ht];exact h) (by rw [ht];exact h)}
theorem Ztc {q:Title->Bool} {s:State} {c:Change} (hl:s.pages.length<=1000000) (h:q c.title=false):Par (Zb5 s c) (Fr q s):=by{
unfold Zb5
refine ZbZ (Zdg (Zgt s.pages c.title hl)) fun r hr=>?_
refine Zy (fun h0=>Zv (Zc9 (by decide))) fun h0=>?_
rcases hr with ⟨rfl,_⟩ | ⟨n,p,rfl,hn,ht⟩
exact absurd (by decide) h0
refine Zy (fun _=>Zv (Zc9 (by decide))) fun _=>?_
refine Ze8 ?_
refine ZjM fun e he=>?_
refine Ze8 ?_
refine Zx fun w hw=>?_
rw [ZgK s.pages n (List.getElem?_eq_some_iff.1 hn).1 hl] at hw
injection hw with hw
subst hw
refine Zx fun d hd=>?_
exact Zv fun _=>⟨rfl,Zna hn (by rw [ht];exact h)⟩}
theorem ZrP {q:Title->Bool} {s:State} {c:Change} (hl:s.pages.length<=1000000) (hg:s.gone.length<=1000000) (h:q c.title=false):Par (ZbC s c) (Fr q s):=by{
unfold ZbC
refine ZbZ (Zdg (Zmr s c.title hg)) fun g hg=>?_
refine Zx fun r _=>?_
refine Zy (fun _=>Zv (Zc9 (by decide))) fun _=>?_
refine Zy (fun _=>Zv (Zc9 (by decide))) fun h0=>?_
rcases hg with rfl | ⟨n,p,rfl,hn,ht⟩
exact absurd (by decide) h0
refine Zy (fun _=>Zv (Zc9 (by decide))) fun _=>?_
refine ZjM fun e he=>?_
rw [Int.toNat_natCast,hn] at he
injection he with he
subst he
refine ZbZ (Zdg (Zdz s.pages _ hl)) fun r hr=>?_
obtain ⟨n,_,rfl,_,_⟩:=hr
refine Zx fun _ _=>?_
exact Zv fun _=>⟨rfl,Zix _ _ _ (by rw [ht];exact h)⟩}
theorem Zxe {q:Title->Bool} {s:State} {c:Change} {z:Int} (hl:s.pages.length<=1000000) (h:q c.title=false):Par (Zei s c z) (Fr q s):=by{
unfold Zei
refine Zx fun r _=>?_
refine Zy (fun _=>Zv (Zc9 (by decide))) fun _=>?_
refine ZjM fun e he=>?_
refine Zy (fun _=>Zv (Zc9 (by decide))) fun _=>?_
refine Zy (fun _=>Zv (Zc9 (by decide))) fun _=>?_
refine Ze8 ?_
refine ZhR (fun _=>True) (fun a rec _ ih=>?_) _ _ trivial
refine Zy (fun _=>ZjM fun e he=>ih _ trivial) fun _=>?_
refine ZbZ (Zdg (Zdz s.pages _ hl)) fun r hr=>?_
obtain ⟨n,_,rfl,_,_⟩:=hr
exact Zv fun _=>⟨rfl,Zix _ _ _ h⟩}
theorem Zxf {q:Title->Bool} {s:State} {c:Change} {z:Int} (hl:s.pages.length<=200) (h:q c.title=false) (h':q c.to=false):Par (Zef s c z) (Fr q s):=by{
unfold Zef
refine ZbZ (Zdg (Zgt s.pages c.title (by omega))) fun r hr=>?_
refine Zy (fun h0=>Zv (Zc9 (by decide))) fun h0=>?_
rcases hr with ⟨rfl,_⟩ | ⟨n,p,rfl,hn,ht⟩
exact absurd (by decide) h0
have hln:=(List.getElem?_eq_some_iff.1 hn).1
refine Zx fun r _=>?_
refine Zy (fun _=>Zv (Zc9 (by decide))) fun _=>?_
refine Zbp (fun k=>∀ b,Par (k b) (Fr q s)) (fun b=>?_) fun k hk=>?_
refine Zb7 (fun _=>Zv (Zc9 (by decide))) fun _=>?_
refine ZjM fun e he=>?_
refine Zx fun w hw=>?_
rw [ZgK s.pages n hln (by omega)] at hw
injection hw with hw
subst hw
have hwl:(s.pages.take n++s.pages.drop (n+1)).length<=200:=by simp;omega
have hwf:=Zna (q:=q) hn (by rw [ht];exact h)
refine ZbZ (Zdg (Zdz _ _ (by omega))) fun w2 hw2=>?_
obtain ⟨n2,hn2,rfl,_,_⟩:=hw2
have hl2:(List.take n2 (s.pages.take n++s.pages.drop (n+1))++(⟨c.to,e.history⟩:Stored)::List.drop n2 (s.pages.take n++s.pages.drop (n+1))).length<=1000000:=by
 rw [List.length_append,List.length_cons,List.length_take,List.length_drop]
 omega
have hf2:=Zix (q:=q) (s.pages.take n++s.pages.drop (n+1)) (⟨c.to,e.history⟩:Stored) n2 h'
rw [hwf] at hf2
refine Zbp (fun k=>∀ l:List Stored,l.filter (fun p=>q p.title)=s.pages.filter (fun p=>q p.title)->Par (k l) (Fr q s)) (fun l e=>Zx fun d _=>Zv fun _=>⟨rfl,e⟩) fun k hk=>?_
refine Zy (fun _=>?_) fun _=>hk _ hf2
refine Zx fun x _=>?_
refine ZbZ (Zdg (Zdz _ _ hl2)) fun w3 hw3=>?_
obtain ⟨n3,hn3,rfl,_,_⟩:=hw3
exact hk _ ((Zix _ _ _ h).trans hf2)
exact Zy (fun _=>hk _) fun _=>hk _}
theorem Zvf {q:Title->Bool} {s:State} {c:Change}:Par (ZcW s c) (Fr q s):=by{
unfold ZcW
refine ZhR (fun _=>True) (fun a rec _ ih=>?_) _ _ trivial
refine Zbp (fun k=>∀ b,Par (k b) (Fr q s)) (fun b=>?_) fun k hk=>?_
refine Zb7 (fun _=>Zx fun _ _=>Zx fun _ _=>ih _ trivial) fun _=>?_
refine Zbp (fun k=>∀ b,Par (k b) (Fr q s)) (fun b=>?_) fun k hk=>?_
refine Zy (fun _=>?_) fun _=>?_
refine Zb7 (fun _=>Zv (Zc9 (by decide))) fun _=>?_
exact Zx fun _ _=>Zx fun _ _=>Zv (Zk0 rfl rfl)
refine Zb7 (fun _=>Zv (Zc9 (by decide))) fun _=>?_
refine Zy (fun _=>Zv (Zc9 (by decide))) fun _=>?_
exact Zx fun _ _=>Zx fun _ _=>Zx fun _ _=>Zv (Zk0 rfl rfl)
exact Zy (fun _=>Zx fun _ _=>hk _) fun _=>hk _
exact Zy (fun _=>Zx fun _ _=>Zx fun _ _=>hk _) fun _=>hk _}
theorem Zvg {q:Title->Bool} {s:State} {u:ByteArray} {z:Int}:Par (ZcF s u z) (Fr q s):=by{
unfold ZcF
refine Zy (fun _=>Zv (Zk0 rfl rfl)) fun _=>?_
refine ZhR (fun _=>True) (fun a rec _ ih=>?_) _ _ trivial
refine Zbp (fun k=>∀ b,Par (k b) (Fr q s)) (fun b=>?_) fun k hk=>?_
refine Zb7 (fun _=>Zx fun _ _=>Zx fun _ _=>ih _ trivial) fun _=>?_
refine Zbp (fun k=>∀ b,Par (k b) (Fr q s)) (fun b=>?_) fun k hk=>?_
refine Zbp (fun k=>∀ b,Par (k b) (Fr q s)) (fun b2=>?_) fun k hk=>?_
refine Zb7 (fun _=>Zv (Zc9 (by decide))) fun _=>?_
refine Zx fun _ _=>?_
refine Zbp (fun k=>∀ b,Par (k b) (Fr q s)) (fun b3=>Zx fun _ _=>Zx fun _ _=>Zv (Zk0 rfl rfl)) fun k hk=>?_
exact Zb7 (fun _=>hk _) fun _=>hk _
exact Zb7 (fun _=>hk _) fun _=>hk _
exact Zy (fun _=>Zx fun _ _=>hk _) fun _=>hk _
exact Zy (fun _=>Zx fun _ _=>hk _) fun _=>hk _}
theorem ZrQ {q:Title->Bool} {s:State} {c:Change}:Par (Zbu s c) (Fr q s):=by{
unfold Zbu
refine Zbp (fun k=>∀ b,Par (k b) (Fr q s)) (fun b=>?_) fun k hk=>?_
exact Zb7 (fun _=>Zv (Zc9 (by decide))) fun _=>Zx fun _ _=>Zx fun _ _=>Zv (Zk0 rfl rfl)
exact Zy (fun _=>hk _) fun _=>hk _}
theorem Zxg {q:Title->Bool} {s:State} {c:Change} (hl:s.proposals.length<=1000000):Par (ZfS s c) (Fr q s):=fun v e h0=>by
 obtain ⟨l,_,h⟩:=Zdg (ZtA s c hl) v e h0
 rw [h]
 exact ⟨rfl,rfl⟩
theorem ZgA {α:Type} {x:Option α} {Q R:α->Prop} (h:Tot x Q) (g:Par x R):Tot x fun v=>Q v/\R v:=by
 obtain ⟨v,h1,h2⟩:=h
 exact ⟨v,h1,h2,g v h1⟩
theorem Zxh {t0:ByteArray} {q:Title->Bool} {s:State} {c:Change} {z y:Int} (hv:VS t0 y s) (h6:c.kind≠6) (h:c.kind≠10->q c.title=false) (h':c.kind=4->q c.to=false):Par (Zcq s c z) (Fr q s):=by{
have hp:=hv.plen
have hg:=hv.glen
have hpr:=hv.prlen
have un:∀ {x:Option (State×Int)},Par x (Fr q s)->Par (x.bind fun r=>(some (r.1,r.2):Option (State×Int))) (Fr q s):=fun hx=>ZbZ hx fun v hv=>Zv hv
unfold Zcq
refine Zy (fun e=>un (ZyW (by omega) (h (by omega)))) fun e1=>?_
refine Zy (fun e=>un (Ztc (by omega) (h (by omega)))) fun e2=>?_
refine Zy (fun e=>un (ZrP (by omega) (by omega) (h (by omega)))) fun e3=>?_
refine Zy (fun e=>un (Zxf hp (h (by omega)) (h' e))) fun e4=>?_
refine Zy (fun e=>un (Zxe (by omega) (h (by omega)))) fun e5=>?_
refine Zy (fun e=>absurd e h6) fun _=>?_
refine Zbp (fun k=>∀ b,Par (k b) (Fr q s)) (fun b=>?_) fun k hk=>?_
refine Zb7 (fun _=>un Zvf) fun _=>?_
refine Zy (fun _=>un ZrQ) fun _=>?_
exact un (Zxg (by omega))
exact Zy (fun _=>hk _) fun _=>hk _}
structure Change.known (c:Change):Prop where
 title:c.kind≠10->c.kind≠6->c.title ∈ ZcA
 dest:c.kind=4->c.to ∈ ZcA
theorem Zvj (s:SrcF) (clock:Int) (hs:s.ok):Tot (ZgJ s clock) fun r=>(r.1.tame/\r.1.known)/\r.2.ok:=by{
unfold ZgJ
refine Zh (ZcB s 14 hs (by omega) (by omega)) fun r1 q1=>?_
refine Zk6 14 rfl q1.1 fun c2 _=>?_
refine Zh (Zuv _ q1.2) fun r3 q3=>?_
refine Zh (ZpW _ q3.2) fun r4 q4=>?_
have ht:(⟨r4.1.space,r4.1.name⟩:Title)≠policyT:=Zii _ q4.1
refine Zw (fun k=>∀ l p sd kd us no ts tn os on tx n hi,(⟨ts,tn⟩:Title)≠policyT->(⟨os,on⟩:Title)≠policyT->0<=n->n<=2000->List.length hi<=3->tx.size<=300->(⟨l,p,sd⟩:SrcF).ok->(kd≠10->kd≠6->(⟨ts,tn⟩:Title) ∈ ZcA)->(kd=4->(⟨os,on⟩:Title) ∈ ZcA)->Tot (k l p sd kd us no ts tn os on tx n hi) fun r:Change×SrcF=>(r.1.tame/\r.1.known)/\r.2.ok) ?_ ?_
intro l p sd kd us no ts tn os on tx n hi a1 a2 a3 a4 a5 a6 a7 a8 a9
exact Zc ⟨⟨⟨a1,a2,a3,a4,a5,a6⟩,⟨a8,a9⟩⟩,a7⟩
intro k3 hk3
have hT:(⟨r4.1.space,r4.1.name⟩:Title) ∈ ZcA:=q4.1
refine Zw (fun k=>∀ b,(b=true->c2≠4)->Tot (k b) fun r:Change×SrcF=>(r.1.tame/\r.1.known)/\r.2.ok) ?_ ?_
intro b hb4
refine Zbj (fun hb=>?_) fun _=>?_
have h4:=hb4 hb
refine Zh (Zws _ q4.2) fun r5 q5=>?_
refine Zh (Zux _ q5.2) fun r6 q6=>?_
refine Zd (fun _=>?_) fun _=>?_
refine Zh (ZcB _ 3 q6.2 (by omega) (by omega)) fun r7 q7=>?_
exact hk3 _ _ _ _ _ _ _ _ _ _ _ _ _ ht ZdZ q7.1.1 (by omega) (by simp) q6.1 q7.2 (fun _ _=>hT) (fun e=>absurd e h4)
exact hk3 _ _ _ _ _ _ _ _ _ _ _ _ _ ht ZdZ (by omega) (by omega) (by simp) q6.1 q6.2 (fun _ _=>hT) (fun e=>absurd e h4)
refine Zd (fun _=>?_) fun h4=>?_
refine Zh (ZpW _ q4.2) fun r5 q5=>?_
refine Zh (ZcB _ 2 q5.2 (by omega) (by omega)) fun r6 q6=>?_
exact hk3 _ _ _ _ _ _ _ _ _ _ _ _ _ ht (Zii _ q5.1) q6.1.1 (by omega) (by simp) (by decide) q6.2 (fun _ _=>hT) (fun _=>q5.1)
refine Zd (fun _=>?_) fun _=>?_
refine Zh (Zps _ clock q4.2) fun r5 q5=>?_
exact hk3 _ _ _ _ _ _ _ _ _ _ _ _ _ ht ZdZ (by omega) (by omega) q5.1 (by decide) q5.2 (fun _ _=>hT) (fun e=>absurd e h4)
refine Zd (fun _=>?_) fun h6=>?_
refine Zh (ZcB _ 2000 q4.2 (by omega) (by omega)) fun r5 q5=>?_
exact hk3 _ _ _ _ _ _ _ _ _ _ _ _ _ ZdZ ZdZ (by rw [Zn];omega) (by rw [Zn];omega) (by simp) (by decide) q5.2 (fun _ h=>absurd rfl h) (fun e=>absurd e (by decide))
refine Zw (fun k=>∀ b,Tot (k b) fun r:Change×SrcF=>(r.1.tame/\r.1.known)/\r.2.ok) ?_ ?_
intro b
refine Zbj (fun _=>?_) fun _=>?_
refine Zd (fun _=>?_) fun _=>?_
exact hk3 _ _ _ _ _ _ _ _ _ _ _ _ _ ht ZdZ (by omega) (by omega) (by simp) (by decide) q4.2 (fun _ _=>hT) (fun e=>absurd e h4)
exact hk3 _ _ _ _ _ _ _ _ _ _ _ _ _ ht ZdZ (by omega) (by omega) (by simp) (by decide) q4.2 (fun _ _=>hT) (fun e=>absurd e h4)
refine Zd (fun h10=>?_) fun _=>?_
refine Zh (ZcB _ 4 q4.2 (by omega) (by omega)) fun r5 q5=>?_
exact hk3 _ _ _ _ _ _ _ _ _ _ _ _ _ ZdZ ZdZ (by rw [Zn];omega) (by rw [Zn];omega) (by simp) (by decide) q5.2 (fun h _=>absurd h10 h) (fun e=>absurd e h4)
exact hk3 _ _ _ _ _ _ _ _ _ _ _ _ _ ht ZdZ (by omega) (by omega) (by simp) (by decide) q4.2 (fun _ _=>hT) (fun e=>absurd e h4)
intro k hk
exact Zd (fun _=>hk _) fun _=>hk _
intro k hk
exact Zd (fun h=>hk _ fun _=>by omega) fun _=>hk _ fun h=>by
 have:=of_decide_eq_true h
 omega}
def Fp (q:Title->Bool) (s:State) (r:State×Int):Prop:=r.2=0->r.1.pages.filter (fun p=>q p.title)=s.pages.filter (fun p=>q p.title)
theorem ZqX {α:Type} {x:Option α} {Q R:α->Prop} (h:Par x Q) (g:∀ v,Q v->R v):Par x R:=fun v e=>g v (h v e)
theorem Zxi {t0:ByteArray} {q:Title->Bool} {s:State} {c:Change} {z y:Int} (hv:VS t0 y s) (h:c.kind≠10->c.kind≠6->q c.title=false) (h':c.kind=4->q c.to=false):Par (Zcq s c z) (Fp q s):=by{
by_cases h6:c.kind=6
unfold Zcq
refine Zy (fun e=>absurd e (by omega)) fun _=>?_
refine Zy (fun e=>absurd e (by omega)) fun _=>?_
refine Zy (fun e=>absurd e (by omega)) fun _=>?_
refine Zy (fun e=>absurd e (by omega)) fun _=>?_
refine Zy (fun e=>absurd e (by omega)) fun _=>?_
refine Zy (fun _=>?_) fun e=>absurd h6 e
exact Zy (fun _=>Zv fun e=>by cases e) fun _=>Zv fun _=>rfl
exact ZqX (Zxh hv h6 (fun e=>h e h6) h') fun v hv e=>(hv e).2}
theorem Zvk {t0:ByteArray} {s:State} {l:List Change} {q:Title->Bool} (h:VS t0 s.seq s) (hs:s.seq<1073741824) (hp:∃ p n,ZW t0=some (p,n,0)) (hl:∀ c ∈ l,c.tame) (hn:l.length<=16)
  (hq:∀ c ∈ l,(c.kind≠10->c.kind≠6->q c.title=false)/\(c.kind=4->q c.to=false)):Par (Zay s l) (Fp q s):=by{
have s0:=h.seq0
refine Zdg ?_
unfold Zay
refine Za (ZpC t0 s h (by omega) hp) ?_
refine Zs rfl ?_
have e1:w64 (s.seq+1)=s.seq+1:=Zn
refine Zw (fun k=>Tot (k true) (Fp q s)/\Tot (k false) (Fp q s)) ⟨ZH rfl (Zc fun e=>by cases e),?_⟩ fun k hk=>?_
refine Zs rfl ?_
refine Zr (fun a:Int×Int×Int×List Stored×List Stored×List Proposal×Int×List Watch×List Last=>∃ n:Nat,a.1=n/\n<=l.length/\VS t0 (s.seq+1) ⟨a.2.1,a.2.2.1,a.2.2.2.1,a.2.2.2.2.1,a.2.2.2.2.2.1,a.2.2.2.2.2.2.1,a.2.2.2.2.2.2.2.1,a.2.2.2.2.2.2.2.2⟩/\a.2.1=s.seq/\a.2.2.2.1.filter (fun p=>q p.title)=s.pages.filter (fun p=>q p.title)) (fun a=>((l.length:Int)-a.1).toNat) ⟨0,rfl,Nat.zero_le _,h.mono (by omega),rfl,rfl⟩ (by first | omega | (dsimp only;omega)) ?_
rintro ⟨i,sq,cl,pg,gn,pr,pd,wt,ls⟩ rec ⟨n,hi,hn',hV,hsq,hc1⟩ ih
dsimp only at hi hV hsq hc1
subst hi hsq
rw [e1]
refine Zd (fun hlt=>?_) fun hlt=>?_
refine Zq (by omega) hlt fun c hcm hg=>?_
have get:∀ {f:Change->Option (State×Int)} {R:State×Int->Prop},Tot (f c) R->Tot ((atI l (n:Int)).bind f) R:=fun hf=>Za (Zed (by simpa using hg)) hf
have tame:=hl c hcm
obtain ⟨z2,z3⟩:=hq c hcm
refine Zh (Zle c (by have:=tame.hist;omega)) fun e he=>?_
refine Zak (fun hne=>Zc fun e0=>absurd e0 hne) fun h0=>?_
have cv:=he h0
refine get ?_
refine Zh (ZgA (ZtJ hV (by omega) cv tame) (Zxi hV z2 z3)) fun r hr=>?_
refine Zak (fun hne=>Zc fun e0=>absurd e0 hne) fun h0=>?_
obtain ⟨k1,k2,-,-⟩:=hr.1 h0
have y2:=hr.2 h0
refine get ?_
refine Zh (Zf4 c tame) fun b _=>?_
refine Zbj (fun _=>Zc fun e0=>by cases e0) fun _=>?_
refine get ?_
refine Zh (ZgA (Zqc k1 (by omega) cv.user) (Zvg (q:=q))) fun r2 hr2=>?_
refine Zak (fun hne=>Zc fun e0=>absurd e0 hne) fun h0=>?_
obtain ⟨m1,m2,-⟩:=hr2.1 h0
obtain ⟨-,x2⟩:=hr2.2 h0
rw [Zn]
refine ih _ ⟨n+1,by dsimp only;omega,by omega,m1,?_,?_⟩ (by first | omega | (dsimp only;omega))
dsimp only at k2 ⊢
omega
dsimp only at y2 ⊢
rw [x2,y2,hc1]
exact Zd (fun hc=>absurd hc (by omega)) fun _=>Zc fun _=>hc1
refine Zd (fun _=>hk.1) fun h1=>?_
rw [decide_eq_false (by omega)]
exact hk.2}
def Zte:List Title:=policyT::ZcA
def nk (t:Title):Bool:=!decide (t ∈ Zte)
def MadeK (s:State) (m:Int):Prop:=Made s m/\s.pages.filter (fun p=>nk p.title) = []
theorem ZyX {t:Title} (h:t ∈ ZcA):nk t=false:=by
 unfold nk Zte
 simp [h]
theorem MadeK.mono {s:State} {m m':Int} (h:MadeK s m) (hm:m<=m'):MadeK s m':=⟨h.1.mono hm,h.2⟩
theorem MadeK.title {s:State} {m:Int} (h:MadeK s m):∀ p ∈ s.pages,p.title ∈ Zte:=fun p hp=>by
 have:=List.filter_eq_nil_iff.1 h.2 p hp
 unfold nk at this
 simpa using this
theorem Zxj (t:ByteArray):(begun t).pages.filter (fun p=>nk p.title) = []:=by
 unfold begun
 rfl
theorem Zxk {s:State} {m:Int} {l:List Change} (h:MadeK s m) (hm:m<=1000) (hl:∀ c ∈ l,c.tame/\c.known) (hn:l.length<=2):Tot (Zay s l) fun r=>r.2=0->MadeK r.1 (m+1):=by{
obtain ⟨h1,h2⟩:=h
obtain ⟨⟨t,ht,hv⟩,g1,g2⟩:=h1
obtain ⟨p,hp⟩:=ZiG t ht
refine (ZgA (Zr4 ⟨⟨t,ht,hv⟩,g1,g2⟩ hm (fun c hc=>(hl c hc).1) hn) (Zvk (q:=nk) hv (by omega) ⟨p,0,hp⟩ (fun c hc=>(hl c hc).1) (by omega) fun c hc=>⟨fun a b=>ZyX ((hl c hc).2.title a b),fun a=>ZyX ((hl c hc).2.dest a)⟩)).mono fun r hr h0=>?_
exact ⟨hr.1 h0,(hr.2 h0).trans h2⟩}
theorem Zlg {α:Type} [DecidableEq α]:∀ {l m:List α},l.Nodup->(∀ x ∈ l,x ∈ m)->l.length<=m.length
 | [],_,_,_=>Nat.zero_le _
 | x::l,m,h,hs=>by
   obtain ⟨h1,h2⟩:=List.nodup_cons.1 h
   have hx:=hs x (List.mem_cons_self ..)
   have:=Zlg (l:=l) (m:=m.erase x) h2 fun y hy=>(List.mem_erase_of_ne (fun e=>h1 (by rw [<- e];exact hy))).2 (hs y (List.mem_cons_of_mem _ hy))
   rw [List.length_erase_of_mem hx] at this
   have hp:=List.length_pos_of_mem hx
   simp only [List.length_cons]
   omega
theorem Zdl {l:List Title} (h:l.Pairwise tlt):l.Nodup:=h.imp fun {a b} hab e=>by
 rw [e] at hab
 exact ZaE _ hab
theorem MadeK.titles {s:State} {m:Int} (h:MadeK s m):(s.pages.map (·.title)).Pairwise tlt:=by
 obtain ⟨t,ht,hv⟩:=h.1.ex
 exact List.pairwise_map.2 hv.sorted
theorem MadeK.plen {s:State} {m:Int} (h:MadeK s m):s.pages.length<=9:=by{
have:=Zlg (Zdl h.titles) fun x hx=>by
 obtain ⟨p,hp,rfl⟩:=List.mem_map.1 hx
 exact h.title p hp
rw [List.length_map] at this
exact this}
def clip (k:Int) (n:Nat):Int:=if (if (n:Int)<k then (n:Int) else k) > 0 then (if (n:Int)<k then (n:Int) else k) else 0
theorem ZpE (k:Int) (n:Nat):0<=clip k n/\clip k n<=n:=by
 unfold clip
 constructor<;>split<;>(try split)<;>omega
def ZaV (l:List Stored) (t:Title):List Revision:=((l.find? fun p=>decide (p.title=t)).map (·.history)).getD []
theorem Zw6 {s:State} {u:ByteArray} {z:Int}:Par (ZcF s u z) fun r=>(r.2=0->∃ ls,r.1=⟨s.seq,s.clock,s.pages,s.gone,s.proposals,s.proposed,s.watches,ls⟩)/\(r.2≠0->r.2=8):=by{
unfold ZcF
refine Zy (fun _=>Zv ⟨fun _=>⟨s.lasts,rfl⟩,fun h=>absurd rfl h⟩) fun _=>?_
refine ZhR (fun _=>True) (fun a rec _ ih=>?_) _ _ trivial
refine Zbp (fun k=>∀ b,Par (k b) fun r:State×Int=>(r.2=0->∃ ls,r.1=⟨s.seq,s.clock,s.pages,s.gone,s.proposals,s.proposed,s.watches,ls⟩)/\(r.2≠0->r.2=8)) (fun b=>?_) fun k hk=>?_
refine Zb7 (fun _=>Zx fun _ _=>Zx fun _ _=>ih _ trivial) fun _=>?_
refine Zbp (fun k=>∀ b,Par (k b) fun r:State×Int=>(r.2=0->∃ ls,r.1=⟨s.seq,s.clock,s.pages,s.gone,s.proposals,s.proposed,s.watches,ls⟩)/\(r.2≠0->r.2=8)) (fun b=>?_) fun k hk=>?_
refine Zbp (fun k=>∀ b,Par (k b) fun r:State×Int=>(r.2=0->∃ ls,r.1=⟨s.seq,s.clock,s.pages,s.gone,s.proposals,s.proposed,s.watches,ls⟩)/\(r.2≠0->r.2=8)) (fun b2=>?_) fun k hk=>?_
refine Zb7 (fun _=>Zv ⟨fun h=>(by cases h),fun _=>rfl⟩) fun _=>?_
refine Zx fun _ _=>?_
refine Zbp (fun k=>∀ b,Par (k b) fun r:State×Int=>(r.2=0->∃ ls,r.1=⟨s.seq,s.clock,s.pages,s.gone,s.proposals,s.proposed,s.watches,ls⟩)/\(r.2≠0->r.2=8)) (fun b3=>Zx fun _ _=>Zx fun _ _=>Zv ⟨fun _=>⟨_,rfl⟩,fun h=>absurd rfl h⟩) fun k hk=>?_
exact Zb7 (fun _=>hk _) fun _=>hk _
exact Zb7 (fun _=>hk _) fun _=>hk _
exact Zy (fun _=>Zx fun _ _=>hk _) fun _=>hk _
exact Zy (fun _=>Zx fun _ _=>hk _) fun _=>hk _}
theorem Zw7 {t0:ByteArray} {s:State} {l:List Change} {I:Nat->State->Prop} {E:Int->Prop} (h:VS t0 s.seq s) (hs:s.seq<1073741824) (hp:∃ p n,ZW t0=some (p,n,0)) (hl:∀ c ∈ l,c.tame) (hn1:1<=l.length) (hn:l.length<=16) (h0:I 0 s)
  (hcv:∀ c ∈ l,Par (ZdU c) fun e=>e≠0->E e) (h7:E 7\/∀ c ∈ l,Par (ZbE c) fun b=>b=false) (h8:E 8)
  (hk:∀ (n:Nat) (c:Change) (st:State),l[n]? = some c->VS t0 (s.seq+1) st->st.seq=s.seq->CV c->I n st->Par (Zcq st c (s.seq+1)) fun r=>(r.2=0->∀ ls,I (n+1) ⟨r.1.seq,r.1.clock,r.1.pages,r.1.gone,r.1.proposals,r.1.proposed,r.1.watches,ls⟩)/\(r.2≠0->E r.2)) :
  Tot (Zay s l) fun r=>(r.2=0->∃ st,I l.length st/\r.1=⟨s.seq+1,st.clock,st.pages,st.gone,st.proposals,st.proposed,st.watches,st.lasts⟩)/\(r.2≠0->E r.2):=by{
have s0:=h.seq0
unfold Zay
refine Za (ZpC t0 s h (by omega) hp) ?_
refine Zs rfl ?_
have e1:w64 (s.seq+1)=s.seq+1:=Zn
refine Zw (fun k=>Tot (k false) fun r:State×Int=>(r.2=0->∃ st,I l.length st/\r.1=⟨s.seq+1,st.clock,st.pages,st.gone,st.proposals,st.proposed,st.watches,st.lasts⟩)/\(r.2≠0->E r.2)) ?_ fun k hk=>?_
refine Zs rfl ?_
refine Zr (fun a:Int×Int×Int×List Stored×List Stored×List Proposal×Int×List Watch×List Last=>∃ n:Nat,a.1=n/\n<=l.length/\VS t0 (s.seq+1) ⟨a.2.1,a.2.2.1,a.2.2.2.1,a.2.2.2.2.1,a.2.2.2.2.2.1,a.2.2.2.2.2.2.1,a.2.2.2.2.2.2.2.1,a.2.2.2.2.2.2.2.2⟩/\a.2.1=s.seq/\I n ⟨a.2.1,a.2.2.1,a.2.2.2.1,a.2.2.2.2.1,a.2.2.2.2.2.1,a.2.2.2.2.2.2.1,a.2.2.2.2.2.2.2.1,a.2.2.2.2.2.2.2.2⟩) (fun a=>((l.length:Int)-a.1).toNat) ⟨0,rfl,Nat.zero_le _,h.mono (by omega),rfl,h0⟩ (by first | omega | (dsimp only;omega)) ?_
rintro ⟨i,sq,cl,pg,gn,pr,pd,wt,ls⟩ rec ⟨n,hi,hn',hV,hsq,hI⟩ ih
dsimp only at hi hV hsq hI
subst hi hsq
rw [e1]
refine Zd (fun hlt=>?_) fun hlt=>?_
refine Zq (by omega) hlt fun c hcm hg=>?_
have get:∀ {f:Change->Option (State×Int)} {R:State×Int->Prop},Tot (f c) R->Tot ((atI l (n:Int)).bind f) R:=fun hf=>Za (Zed (by simpa using hg)) hf
have tame:=hl c hcm
refine Zh (ZgA (Zle c (by have:=tame.hist;omega)) (hcv c hcm)) fun e he=>?_
refine Zak (fun hne=>Zc ⟨fun e0=>absurd e0 hne,fun _=>he.2 hne⟩) fun h0=>?_
have cv:=he.1 h0
refine get ?_
refine Zh (ZgA (ZtJ hV (by omega) cv tame) (hk n c _ (by simpa using hg) hV rfl cv hI)) fun r hr=>?_
refine Zak (fun hne=>Zc ⟨fun e0=>absurd e0 hne,fun _=>hr.2.2 hne⟩) fun h0=>?_
obtain ⟨k1,k2,-,-⟩:=hr.1 h0
have y2:=hr.2.1 h0
refine get ?_
refine Zh (Q:=fun b=>b=true->E 7) ?_ fun b hb=>?_
rcases h7 with h7 | h7
exact (Zf4 c tame).mono fun _ _ _=>h7
exact (ZgA (Zf4 c tame) (h7 c hcm)).mono fun b hb e=>by rw [hb.2] at e;cases e
refine Zbj (fun e=>Zc ⟨fun e0=>(by cases e0),fun _=>hb e⟩) fun _=>?_
refine get ?_
refine Zh (ZgA (Zqc k1 (by omega) cv.user) Zw6) fun r2 hr2=>?_
refine Zak (fun hne=>Zc ⟨fun e0=>absurd e0 hne,fun _=>by rw [hr2.2.2 hne];exact h8⟩) fun h0=>?_
obtain ⟨m1,m2,-⟩:=hr2.1 h0
obtain ⟨ls2,x2⟩:=hr2.2.1 h0
rw [Zn]
refine ih _ ⟨n+1,by dsimp only;omega,by omega,m1,?_,?_⟩ (by first | omega | (dsimp only;omega))
dsimp only at k2 ⊢
omega
dsimp only
rw [x2]
exact y2 ls2
refine Zd (fun hc=>absurd hc (by omega)) fun _=>Zc ⟨fun _=>?_,fun h=>absurd rfl h⟩
obtain rfl:n=l.length:=by omega
exact ⟨_,hI,rfl⟩
refine Zd (fun c=>absurd c (by omega)) fun h1=>?_
rw [decide_eq_false (by omega)]
exact hk}
def Zo8 (t:Title) (r:Revision):Num:=⟨⟨t,r.number,r.user,r.note,r.minute⟩,r.seq⟩
def Zo9 (l:List Stored) (f:Title->Bool) (t:Title):List Num:=if f t=true then (ZaV l t).map (Zo8 t) else []
def ents (l:List Stored) (f:Title->Bool) (T:List Title):List Num:=T.flatMap (Zo9 l f)
theorem Zx8 {l:List Stored} (h:l.Pairwise fun a b=>tlt a.title b.title) {p q:Stored} (hp:p ∈ l) (hq:q ∈ l) (e:p.title=q.title):p=q:=by{
obtain ⟨i,hi⟩:=List.getElem?_of_mem hp
obtain ⟨j,hj⟩:=List.getElem?_of_mem hq
rcases Nat.lt_trichotomy i j with c | c | c
have:=Zgs h c hi hj
rw [e] at this
exact absurd this (ZaE _)
subst c
rw [hi] at hj
injection hj
have:=Zgs h c hj hi
rw [e] at this
exact absurd this (ZaE _)}
theorem ZmC {l:List Stored} (h:l.Pairwise fun a b=>tlt a.title b.title) {p:Stored} (hp:p ∈ l):ZaV l p.title=p.history:=by{
unfold ZaV
cases hf:l.find? (fun q=>decide (q.title=p.title)) with
| none=>
  have:=List.find?_eq_none.1 hf p hp
  simp at this
| some q=>
  have h1:=List.mem_of_find?_eq_some hf
  have h2:=List.find?_some hf
  rw [Zx8 h h1 hp (of_decide_eq_true h2)]
  rfl}
def rdB (l:List Stored) (P:Policy) (G:List ByteArray) (t:Title):Bool:=l.any (fun p=>decide (p.title=t))&&Zjf P G 1 t
theorem Zui {s:State} {u:ByteArray} {P:Policy} {G:List ByteArray} (h:RdAt s u P G) (hs:s.pages.Pairwise fun a b=>tlt a.title b.title) (hl:s.pages.length<=200) (hh:∀ p ∈ s.pages,1<=p.history.length/\p.history.length<=40) (T:List Title) (hT:T.length<=12) :
  Tot (Zer s u T) fun r=>∃ L:List Num,L.Perm (ents s.pages (rdB s.pages P G) T)/\Srt nLt L/\L.length<=480/\r=L.map (·.item):=by{
have hh':∀ p ∈ s.pages,1<=p.history.length/\p.history.length<=1000000:=fun p hp=>by
 have:=hh p hp
 omega
unfold Zer
refine Zr (fun a:Int×List Num=>∃ n:Nat,a.1=n/\n<=T.length/\a.2.length<=40 * n/\a.2=ents s.pages (rdB s.pages P G) (T.take n)) (fun a=>((T.length:Int)-a.1).toNat) ⟨0,rfl,Nat.zero_le _,by simp,rfl⟩ (by first | omega | (dsimp only;omega)) ?_
rintro ⟨i,l⟩ rec ⟨n,e1,hn,hlen,hents⟩ ih
dsimp only at e1 hlen hents ⊢
subst e1
refine Zd (fun hlt=>?_) fun hlt=>?_
have hlt':n<T.length:=by omega
have htk:T.take (n+1)=T.take n ++ [T[n]]:=List.take_succ_eq_append_getElem hlt'
refine Zw (fun k=>∀ l':List Num,l'.length<=40 * (n+1)->l'=l++Zo9 s.pages (rdB s.pages P G) T[n]->Tot (k l') fun r=>∃ L:List Num,L.Perm (ents s.pages (rdB s.pages P G) T)/\Srt nLt L/\L.length<=480/\r=L.map (·.item))
 (fun l' hl' hl2=>ih _ ⟨n+1,(Zn).trans (by omega),by omega,hl',by
  dsimp only
  rw [hl2,hents,htk]
  unfold ents
  rw [List.flatMap_append]
  simp⟩ (by dsimp only;rw [Zn];omega)) fun k hk=>?_
refine Zq (by omega) hlt fun t _ htn=>?_
rw [Int.toNat_natCast,List.getElem?_eq_getElem hlt'] at htn
injection htn with htn
rw [htn] at hk
refine Za (Zsh h (by omega) hh' t) ?_
change Tot (if (!rdB s.pages P G t)=true then _ else _) _
refine Zbj (fun hb=>hk _ (by omega) ?_) fun hb=>?_
unfold Zo9
rw [if_neg (by simpa using hb),List.append_nil]
have hb':rdB s.pages P G t=true:=by simpa using hb
refine Zh (Zqn s t (by omega) hh') fun r hr=>?_
have hrl:r.1.history.length<=40/\ZaV s.pages t=r.1.history:=by
 rcases hr with ⟨_,h2⟩ | ⟨_,h2,h3⟩
 exfalso
 have:s.pages.any (fun p=>decide (p.title=t))=false:=by
  rw [List.any_eq_false]
  intro p hp
  simpa using h2 p hp
 unfold rdB at hb'
 rw [this] at hb'
 cases hb'
 refine ⟨(hh _ h2).2,?_⟩
 rw [<- h3]
 exact ZmC hs h2
obtain ⟨hrl,hre⟩:=hrl
refine Zr (fun a:Int×List Num=>∃ m:Nat,a.1=m/\m<=r.1.history.length/\a.2.length<=40 * n+m/\a.2=l++((r.1.history.take m).map (Zo8 t))) (fun a=>((r.1.history.length:Int)-a.1).toNat) ⟨0,rfl,Nat.zero_le _,by dsimp only;omega,by simp⟩ (by first | omega | (dsimp only;omega)) ?_
rintro ⟨j,l2⟩ rec2 ⟨m,e2,hm,hlen2,hl2⟩ ih2
dsimp only at e2 hlen2 hl2 ⊢
subst e2
refine Zd (fun hlt2=>?_) fun hlt2=>hk _ (by omega) ?_
have hm':m<r.1.history.length:=by omega
refine Zq (by omega) hlt2 fun e _ he=>?_
rw [Int.toNat_natCast] at he
refine ZC 1000 (by simp;omega) (by decide) (by decide) ?_
refine ih2 _ ⟨m+1,(Zn).trans (by omega),by omega,by simp;omega,?_⟩ (by dsimp only;rw [Zn];omega)
dsimp only
rw [hl2,List.take_add_one,he]
simp [Zo8]
have:m=r.1.history.length:=by omega
subst this
rw [hl2,List.take_length]
unfold Zo9
rw [if_pos hb',hre]
have hn':n=T.length:=by omega
subst hn'
rw [List.take_length] at hents
refine Zh (ZuG l (by omega)) fun r hr=>?_
have hr2:=hr.1.length_eq
refine Zr (fun a:Int×List Item=>∃ m:Nat,a.1=m/\m<=r.length/\a.2=(r.take m).map (·.item)) (fun a=>((r.length:Int)-a.1).toNat) ⟨0,rfl,Nat.zero_le _,by simp⟩ (by first | omega | (dsimp only;omega)) ?_
rintro ⟨j,l2⟩ rec2 ⟨m,e2,hm,hl2⟩ ih2
dsimp only at e2 hl2 ⊢
subst e2
have hlen2:l2.length=m:=by rw [hl2];simp;omega
refine Zd (fun hlt2=>?_) fun hlt2=>Zc ⟨r,by rw [<- hents];exact hr.1,hr.2,by omega,?_⟩
refine Zq (by omega) hlt2 fun e _ he=>?_
rw [Int.toNat_natCast] at he
refine ZC 1000 (by simp;omega) (by decide) (by decide) ?_
refine ih2 _ ⟨m+1,(Zn).trans (by omega),by omega,?_⟩ (by dsimp only;rw [Zn];omega)
dsimp only
rw [hl2,List.take_add_one,he]
simp
have:m=r.length:=by omega
subst this
rw [hl2,List.take_length]}
theorem Zrd {α:Type} (l:List α) (i:Int) (x:α) (k:Nat) (h0:0<=i) (h1:i<(l.length:Int)):(ZbF l i x)[k]? = if k=i.toNat then some x else l[k]?:=by{
unfold ZbF
rw [List.getElem?_set]
by_cases h:i.toNat=k
rw [if_pos h,if_pos (by omega),if_pos h.symm]
rw [if_neg h,if_neg (fun e=>h e.symm)]}
theorem Zuj (l:List Item) (hl:l.length<=1000000):Za7 l=some l.reverse:=by{
refine Zpl ?_
unfold Za7
rw [Zn]
refine Zr (fun a:Int×Int×List Item=>(0<=a.1/\a.2.1<(l.length:Int)/\a.2.1=(l.length:Int)-1-a.1/\a.1<=a.2.1+2/\a.2.2.length=l.length)/\∀ k:Nat,k<l.length->a.2.2[k]? = if (k:Int)<a.1\/a.2.1<(k:Int) then l[l.length-1-k]? else l[k]?) (fun a=>((l.length:Int)-a.1).toNat)
 ⟨⟨Int.le_refl _,by dsimp only;omega,by dsimp only;omega,by dsimp only;omega,rfl⟩,fun k hk=>by dsimp only;rw [if_neg (by omega)]⟩ (by first | omega | (dsimp only;omega)) ?_
rintro ⟨i,j,d⟩ rec ⟨⟨h0,h1,h2,h4,h3⟩,h5⟩ ih
dsimp only at h0 h1 h2 h3 h4 h5 ⊢
refine Zd (fun hlt=>?_) fun hge=>Zc ?_
refine Zq (by omega) (by omega) fun x _ hx=>?_
refine Zq (by omega) (by omega) fun y _ hy=>?_
refine Zq (by omega) (by omega) fun _ _ _=>?_
refine Zq (by omega) (by rw [Zcp];omega) fun _ _ _=>?_
rw [Zn (n:=i+1),Zn (n:=j-1)]
refine ih _ ⟨⟨by dsimp only;omega,by dsimp only;omega,by dsimp only;omega,by dsimp only;omega,by dsimp only;rw [Zcp,Zcp];exact h3⟩,fun k hk=>?_⟩ (by first | omega | (dsimp only;omega))
dsimp only
rw [Zrd _ _ _ _ (by omega) (by rw [Zcp];omega),Zrd _ _ _ _ (by omega) (by omega)]
have hi:=h5 i.toNat (by omega)
have hj:=h5 j.toNat (by omega)
rw [if_neg (by omega)] at hi hj
rw [hx] at hj
rw [hy] at hi
by_cases c1:k=j.toNat
rw [if_pos c1,if_pos (by omega),show l.length-1-k=i.toNat by omega,<- hi]
rw [if_neg c1]
by_cases c2:k=i.toNat
rw [if_pos c2,if_pos (by omega),show l.length-1-k=j.toNat by omega,<- hj]
rw [if_neg c2,h5 k hk]
by_cases c3:(k:Int)<i\/j<(k:Int)
rw [if_pos c3,if_pos (by omega)]
rw [if_neg c3,if_neg (by omega)]
refine List.ext_getElem? fun k=>?_
by_cases hk:k<l.length
rw [h5 k hk,List.getElem?_reverse hk]
by_cases c:(k:Int)<i\/j<(k:Int)
rw [if_pos c]
rw [if_neg c,show l.length-1-k=k by omega]
rw [List.getElem?_eq_none (by omega),List.getElem?_eq_none (by rw [List.length_reverse];omega)]}
structure StepOK (M:State->Int->Prop):Prop where
 mono:∀ s m m',M s m->m<=m'->M s m'
 pos:∀ s m,M s m->0<=m
 step:∀ s m l,M s m->m<=1000->(∀ c ∈ l,c.tame/\c.known)->1<=l.length->l.length<=2->Tot (Zay s l) fun r=>r.2=0->M r.1 (m+1)
 start:∀ t ∈ policyG,M (begun t) 1
theorem ZsM (s:SrcF) (clock:Int) (hs:s.ok):Tot (Zfx s clock) fun r=>(∀ c ∈ r.1,c.tame/\c.known)/\(1<=r.1.length/\r.1.length<=2)/\r.2.ok:=by{
unfold Zfx
refine Zh (ZcB s 6 hs (by omega) (by omega)) fun r hr=>?_
have hq:0<=Int.tdiv r.1 3/\Int.tdiv r.1 3<=1:=by
 have:=hr.1
 rw [Int.tdiv_eq_ediv_of_nonneg this.1]
 omega
refine Zvu (by decide) ?_
have e:IntKind.wrap .i64 (Int.tdiv r.1 3)=Int.tdiv r.1 3:=Zn
rw [e]
refine Zr (fun a:Int×List Int×Int×Int×List Change=>((a.2.2.2.2.length:Int)+a.1=1+Int.tdiv r.1 3/\0<=a.1/\a.1<=2)/\(∀ c ∈ a.2.2.2.2,c.tame/\c.known)/\(⟨a.2.1,a.2.2.1,a.2.2.2.1⟩:SrcF).ok) (fun a=>a.1.toNat) ⟨?_,by simp,hr.2⟩ ?_ ?_
dsimp only
rw [Zn]
simp
omega
dsimp only
rw [Zn]
omega
rintro ⟨n,l,p,sd,out⟩ rec ⟨⟨h1,h2,h3⟩,h4,h5⟩ ih
dsimp only at h1 h2 h3 h4 h5 ⊢
refine Zd (fun h=>?_) fun h=>?_
refine Zh (Zvj _ clock h5) fun r1 q1=>?_
refine ZC 2 (by simp;omega) (by decide) (by decide) ?_
refine ih _ ⟨?_,?_,q1.2⟩ ?_
dsimp only
rw [Zn]
simp
omega
intro c hc
rcases List.mem_append.1 hc with hc | hc
exact h4 c hc
simp at hc
rw [hc]
exact q1.1
dsimp only
rw [Zn]
omega
exact Zc ⟨h4,by dsimp only;omega,h5⟩}
theorem ZwG {M:State->Int->Prop} (H:StepOK M) (s:State) (r:SrcF) (n m:Int) (h:M s m) (hr:r.ok) (hn:0<=n) (hm:m+n<=1000):Tot (Ziq s r n) fun q=>M q.1 (m+n)/\q.2.ok:=by{
have m0:0<=m:=H.pos _ _ h
unfold Ziq
refine Zr (fun a:Int×List Int×Int×Int×Int×Int×List Stored×List Stored×List Proposal×Int×List Watch×List Last=>(0<=a.1/\a.1<=n)/\(⟨a.2.1,a.2.2.1,a.2.2.2.1⟩:SrcF).ok/\M ⟨a.2.2.2.2.1,a.2.2.2.2.2.1,a.2.2.2.2.2.2.1,a.2.2.2.2.2.2.2.1,a.2.2.2.2.2.2.2.2.1,a.2.2.2.2.2.2.2.2.2.1,a.2.2.2.2.2.2.2.2.2.2.1,a.2.2.2.2.2.2.2.2.2.2.2⟩ (m+n-a.1)) (fun a=>a.1.toNat) ⟨⟨hn,Int.le_refl _⟩,hr,H.mono _ _ _ h (by dsimp only;omega)⟩ (by dsimp only;omega) ?_
rintro ⟨i,l,p,sd,sq,cl,pg,gn,pr,pd,wt,ls⟩ rec ⟨⟨h1,h2⟩,h3,h4⟩ ih
dsimp only at h1 h2 h3 h4
refine Zd (fun hlt=>?_) fun hlt=>?_
refine Zap ?_
refine Zh (ZsM _ cl h3) fun c hc=>?_
rw [Zn]
refine Zh (H.step _ _ _ h4 (by omega) hc.1 hc.2.1.1 hc.2.1.2) fun r hr=>?_
refine Zd (fun h0=>?_) fun _=>?_
refine ih _ ⟨⟨by dsimp only;omega,by dsimp only;omega⟩,hc.2.2,H.mono _ _ _ (hr h0) (by dsimp only;omega)⟩ (by first | omega | (dsimp only;omega))
refine ih _ ⟨⟨by dsimp only;omega,by dsimp only;omega⟩,hc.2.2,H.mono _ _ _ h4 (by dsimp only;omega)⟩ (by first | omega | (dsimp only;omega))
exact Zc ⟨H.mono _ _ _ h4 (by omega),h3⟩}
theorem ZwH {M:State->Int->Prop} (H:StepOK M) (l:List Int) (hl:l.length<=9223372036854775807):Tot (Zir l) fun s=>M s 20:=by{
unfold Zir
refine Zh (Zwk l hl) fun s hs=>?_
refine Zh (Zv6 s hs) fun r hr=>?_
obtain ⟨p,hp⟩:=ZiG r.1 hr.1
have hsz:=ZoG r.1 hr.1
refine Za (Zxw r.1 hsz ⟨p,0,hp⟩) ?_
have hb:M (begun r.1) 1:=H.start r.1 hr.1
refine Zh (ZcB _ 5 hr.2 (by omega) (by omega)) fun q hq=>?_
rw [Zn]
refine Zr (fun a:Int×Int×Int×List Stored×List Stored×List Proposal×Int×List Watch×List Last×List Int×Int×Int=>(0<=a.1/\a.1<=3+q.1)/\(⟨a.2.2.2.2.2.2.2.2.2.1,a.2.2.2.2.2.2.2.2.2.2.1,a.2.2.2.2.2.2.2.2.2.2.2⟩:SrcF).ok/\M ⟨a.2.1,a.2.2.1,a.2.2.2.1,a.2.2.2.2.1,a.2.2.2.2.2.1,a.2.2.2.2.2.2.1,a.2.2.2.2.2.2.2.1,a.2.2.2.2.2.2.2.2.1⟩ (1+a.1)) (fun a=>(3+q.1-a.1).toNat) ⟨⟨by dsimp only;omega,by dsimp only;omega⟩,hq.2,hb⟩ (by dsimp only;omega) ?_
rintro ⟨i,sq,cl,pg,gn,pr,pd,wt,ls,li,ps,sd⟩ rec ⟨⟨h1,h2⟩,h3,h4⟩ ih
dsimp only at h1 h2 h3 h4
refine Zd (fun hlt=>?_) fun hlt=>?_
refine Zap ?_
refine Zh (Zuv _ h3) fun u hu=>?_
refine Za (v:=ZcA) rfl ?_
refine Zq h1 (by show i<8;omega) fun e he _=>?_
refine Zh (Zux _ hu.2) fun x hx=>?_
rw [Zn]
refine Zh (H.step _ _ _ h4 (by omega) (fun c hc=>?_) (by simp) (by simp)) fun r hr=>?_
simp at hc
subst hc
exact ⟨⟨Zii e he,ZdZ,by simp,by simp,by simp,hx.1⟩,⟨fun _ _=>he,fun e=>by cases e⟩⟩
refine Zd (fun h0=>?_) fun _=>?_
exact ih _ ⟨⟨by dsimp only;omega,by dsimp only;omega⟩,hx.2,H.mono _ _ _ (hr h0) (by dsimp only;omega)⟩ (by first | omega | (dsimp only;omega))
exact ih _ ⟨⟨by dsimp only;omega,by dsimp only;omega⟩,hx.2,H.mono _ _ _ h4 (by dsimp only;omega)⟩ (by first | omega | (dsimp only;omega))
refine Zh (ZcB _ 7 h3 (by omega) (by omega)) fun a ha=>?_
refine Zh (ZwG H _ _ _ (1+i) h4 ha.2 ha.1.1 (by omega)) fun r hr=>?_
exact Zc (H.mono _ _ _ hr.1 (by omega))}
def Fw (s:State) (r:State×Int):Prop:=r.2=0->r.1.watches=s.watches
theorem Zyu {s:State} {c:Change} {z:Int}:Par (Zgc s c z) (Fw s):=by{
unfold Zgc
refine Zx fun _ _=>Zy (fun _=>Zy (fun _=>Zv fun _=>rfl) fun _=>Zx fun _ _=>Zv fun _=>rfl) fun _=>?_
refine Zx fun _ _=>Zy (fun _=>Zv fun _=>rfl) fun _=>?_
exact Zx fun _ _=>Zx fun _ _=>Zx fun _ _=>Zx fun _ _=>Zv fun _=>rfl}
theorem ZsN {s:State} {c:Change}:Par (Zb5 s c) (Fw s):=by
 unfold Zb5
 refine Zx fun _ _=>Zy (fun _=>Zv fun _=>rfl) fun _=>Zy (fun _=>Zv fun _=>rfl) fun _=>?_
 exact Zx fun _ _=>Zx fun _ _=>Zx fun _ _=>Zx fun _ _=>Zx fun _ _=>Zv fun _=>rfl
theorem Zrn {s:State} {c:Change}:Par (ZbC s c) (Fw s):=by
 unfold ZbC
 refine Zx fun _ _=>Zx fun _ _=>Zy (fun _=>Zv fun _=>rfl) fun _=>Zy (fun _=>Zv fun _=>rfl) fun _=>Zy (fun _=>Zv fun _=>rfl) fun _=>?_
 exact Zx fun _ _=>Zx fun _ _=>Zx fun _ _=>Zv fun _=>rfl
theorem ZwI {s:State} {c:Change} {z:Int}:Par (Zei s c z) (Fw s):=by{
unfold Zei
refine Zx fun _ _=>Zy (fun _=>Zv fun _=>rfl) fun _=>Zx fun _ _=>Zy (fun _=>Zv fun _=>rfl) fun _=>Zy (fun _=>Zv fun _=>rfl) fun _=>Zx fun _ _=>?_
refine ZhR (fun _=>True) (fun a rec _ ih=>?_) _ _ trivial
exact Zy (fun _=>Zx fun _ _=>ih _ trivial) fun _=>Zx fun _ _=>Zv fun _=>rfl}
theorem ZwJ {s:State} {c:Change} {z:Int}:Par (Zef s c z) (Fw s):=by{
unfold Zef
refine Zx fun _ _=>Zy (fun _=>Zv fun _=>rfl) fun _=>Zx fun _ _=>Zy (fun _=>Zv fun _=>rfl) fun _=>?_
refine Zbp (fun k=>∀ b,Par (k b) (Fw s)) (fun b=>?_) fun k hk=>?_
refine Zb7 (fun _=>Zv fun _=>rfl) fun _=>Zx fun _ _=>Zx fun _ _=>Zx fun _ _=>?_
refine Zbp (fun k=>∀ l:List Stored,Par (k l) (Fw s)) (fun l=>Zx fun d _=>Zv fun _=>rfl) fun k hk=>?_
exact Zy (fun _=>Zx fun _ _=>Zx fun _ _=>hk _) fun _=>hk _
exact Zy (fun _=>hk _) fun _=>hk _}
theorem Zro {s:State} {c:Change}:Par (Zbu s c) (Fw s):=by{
unfold Zbu
refine Zbp (fun k=>∀ b,Par (k b) (Fw s)) (fun b=>?_) fun k hk=>?_
exact Zb7 (fun _=>Zv fun _=>rfl) fun _=>Zx fun _ _=>Zx fun _ _=>Zv fun _=>rfl
exact Zy (fun _=>hk _) fun _=>hk _}
theorem ZwK {s:State} {c:Change} (hl:s.proposals.length<=1000000):Par (ZfS s c) (Fw s):=fun v e h0=>by
 obtain ⟨l,_,h⟩:=Zdg (ZtA s c hl) v e h0
 rw [h]
theorem ZuL {s:State} {c:Change}:Par (ZcW s c) fun r=>r.2=0->∀ w ∈ r.1.watches,w ∈ s.watches\/w=⟨c.user,c.title⟩:=by{
unfold ZcW
refine ZhR (fun a:Int×List Watch=>∀ w ∈ a.2,w ∈ s.watches) (fun a rec ha ih=>?_) _ _ (fun w hw=>by cases hw)
obtain ⟨i,out⟩:=a
dsimp only at ha ⊢
refine Zbp (fun k=>∀ b,Par (k b) fun r:State×Int=>r.2=0->∀ w ∈ r.1.watches,w ∈ s.watches\/w=⟨c.user,c.title⟩) (fun b=>?_) fun k hk=>?_
refine Zb7 (fun _=>?_) fun _=>?_
refine ZjM fun e he=>Ze8 (ih _ fun w hw=>?_)
rcases List.mem_append.1 hw with hw | hw
exact ha w hw
simp at hw
rw [hw]
exact List.mem_of_getElem? he
refine Zbp (fun k=>∀ b,Par (k b) fun r:State×Int=>r.2=0->∀ w ∈ r.1.watches,w ∈ s.watches\/w=⟨c.user,c.title⟩) (fun b=>?_) fun k hk=>?_
have hsub:∀ (a b:Int) (x:List Watch),Zgj s.watches a b=some x->∀ w ∈ x,w ∈ s.watches:=fun a b x hx w hw=>by
 unfold Zgj at hx
 split at hx
 injection hx with hx
 rw [<- hx] at hw
 exact List.mem_of_mem_drop (List.mem_of_mem_take hw)
 cases hx
refine Zy (fun _=>?_) fun _=>?_
refine Zb7 (fun _=>Zv fun e=>by cases e) fun _=>?_
refine Zx fun x hx=>Ze8 (Zv fun _ w hw=>.inl ?_)
rcases List.mem_append.1 hw with hw | hw
exact ha w hw
exact hsub _ _ _ hx w hw
refine Zb7 (fun _=>Zv fun e=>by cases e) fun _=>?_
refine Zy (fun _=>Zv fun e=>by cases e) fun _=>?_
refine Ze8 (Zx fun x hx=>Ze8 (Zv fun _ w hw=>?_))
rcases List.mem_append.1 hw with hw | hw
rcases List.mem_append.1 hw with hw | hw
exact .inl (ha w hw)
simp at hw
exact .inr hw
exact .inl (hsub _ _ _ hx w hw)
exact Zy (fun _=>Zx fun _ _=>hk _) fun _=>hk _
exact Zy (fun _=>Zx fun _ _=>Zx fun _ _=>hk _) fun _=>hk _}
theorem ZwL {t0:ByteArray} {s:State} {c:Change} {z y:Int} (hv:VS t0 y s) (hc:CV c):Par (Zcq s c z) fun r=>r.2=0->∀ w ∈ r.1.watches,w ∈ s.watches\/(c.kind≠10/\c.kind≠6/\w=⟨c.user,c.title⟩):=by{
have hpr:=hv.prlen
have un:∀ {x:Option (State×Int)},Par x (Fw s)->Par (x.bind fun r=>(some (r.1,r.2):Option (State×Int))) fun r=>r.2=0->∀ w ∈ r.1.watches,w ∈ s.watches\/(c.kind≠10/\c.kind≠6/\w=⟨c.user,c.title⟩):=fun hx=>ZbZ hx fun v hv=>Zv fun h0 w hw=>.inl (by
 rw [hv h0] at hw
 exact hw)
unfold Zcq
refine Zy (fun e=>un Zyu) fun e1=>?_
refine Zy (fun e=>un ZsN) fun e2=>?_
refine Zy (fun e=>un Zrn) fun e3=>?_
refine Zy (fun e=>un ZwJ) fun e4=>?_
refine Zy (fun e=>un ZwI) fun e5=>?_
refine Zy (fun e=>Zy (fun _=>Zv fun e=>by cases e) fun _=>Zv fun _ w hw=>.inl hw) fun e6=>?_
refine Zbp (fun k=>(c.kind=7\/c.kind=8->Par (k true) fun r:State×Int=>r.2=0->∀ w ∈ r.1.watches,w ∈ s.watches\/(c.kind≠10/\c.kind≠6/\w=⟨c.user,c.title⟩))/\Par (k false) fun r:State×Int=>r.2=0->∀ w ∈ r.1.watches,w ∈ s.watches\/(c.kind≠10/\c.kind≠6/\w=⟨c.user,c.title⟩)) ⟨fun h78=>?_,?_⟩ fun k hk=>?_
refine Zb7 (fun _=>?_) fun e=>by cases e
refine ZbZ ZuL fun v hv=>Zv fun h0 w hw=>?_
rcases hv h0 w hw with h | h
exact .inl h
exact .inr ⟨by omega,by omega,h⟩
refine Zb7 (fun e=>by cases e) fun _=>?_
refine Zy (fun _=>un Zro) fun _=>?_
exact un (ZwK (by omega))
refine Zy (fun e=>?_) fun e=>?_
rw [decide_eq_true e]
exact hk.1 (.inl e)
by_cases e8:c.kind=8
rw [decide_eq_true e8]
exact hk.1 (.inr e8)
rw [decide_eq_false e8]
exact hk.2}
def ZlE (s:State) (m:Int):Prop:=MadeK s m/\∀ w ∈ s.watches,w.title ∈ ZcA
theorem ZwM {s:State} {m:Int} {l:List Change} (h:ZlE s m) (hm:m<=1000) (hl:∀ c ∈ l,c.tame/\c.known) (hn1:1<=l.length) (hn:l.length<=2):Tot (Zay s l) fun r=>r.2=0->ZlE r.1 (m+1):=by{
obtain ⟨h1,h2⟩:=h
have h1':=h1
obtain ⟨⟨⟨t,ht,hv⟩,g1,g2⟩,-⟩:=h1'
obtain ⟨p,hp⟩:=ZiG t ht
refine (ZgA (Zxk h1 hm hl hn) (Zdg (Zw7 (I:=fun _ st=>∀ w ∈ st.watches,w.title ∈ ZcA) (E:=fun _=>True) hv (by omega) ⟨p,0,hp⟩ (fun c hc=>(hl c hc).1) hn1 (by omega) h2 (fun _ _ _ _ _=>trivial) (.inl trivial) trivial fun n c st hc hV hsq cv hI=>?_))).mono fun r hr h0=>?_
refine ZqX (ZwL hV cv) fun r hr=>⟨fun h0 ls w hw=>?_,fun _=>trivial⟩
rcases hr h0 w hw with h | ⟨k1,k2,rfl⟩
exact hI w h
exact (hl c (List.mem_of_getElem? hc)).2.title k1 k2
obtain ⟨st,hst,e⟩:=hr.2.1 h0
refine ⟨hr.1 h0,?_⟩
rw [e]
exact hst}
theorem madeW:StepOK ZlE where
 mono:=fun s m m' h hm=>⟨h.1.mono hm,h.2⟩
 pos:=fun s m h=>by
  obtain ⟨t,ht,hv⟩:=h.1.1.ex
  have:=hv.seq0
  have:=h.1.1.seq
  omega
 step:=fun s m l h hm hl h1 h2=>ZwM h hm hl h1 h2
 start:=fun t ht=>⟨⟨⟨⟨t,ht,Zvz t (ZoG t ht)⟩,Int.le_refl _,by show (0:Int)<=4000 * 1;decide⟩,Zxj t⟩,fun w hw=>by cases hw⟩
structure Rd2 (s:State) (u:ByteArray) (P:Policy) (G:List ByteArray):Prop where
 rd:RdAt s u P G
 ref:Zcz s=some P
 gref:Zev P u=some G
theorem Zzt {t0:ByteArray} {q:Int} {s:State} {u:ByteArray} (hv:VS t0 q s) (ht:t0 ∈ policyG) (hu:u ∈ usersG):∃ P0 ∈ polsG,∃ G,Rd2 s u (ZiS P0 s.pages) G/\∀ (s':State) (q':Int),VS t0 q' s'->ZiR s'.pages=ZiR s.pages->Rd2 s' u (ZiS P0 s.pages) G:=by{
obtain ⟨P0,hP,hr,hp⟩:=Zql t0 ht
obtain ⟨e1,e2⟩:=Zzn hv hr hp
have hin:=ZvR hP s.pages
obtain ⟨G,g1,g2,g3⟩:=Zqo _ hin u hu
refine ⟨P0,hP,G,⟨⟨hin,e2,g2,g3⟩,e1,g1⟩,fun s' q' hv' hh=>?_⟩
obtain ⟨f1,f2⟩:=Zzn hv' hr hp
have:ZiS P0 s'.pages=ZiS P0 s.pages:=by
 unfold ZiS
 rw [hh]
rw [this] at f1 f2
exact ⟨⟨hin,f2,g2,g3⟩,f1,g1⟩}
theorem Zo6 {s:State} {u:ByteArray} {P:Policy} {G:List ByteArray} (h:Rd2 s u P G) (hl:s.pages.length<=1000000) (t:Title):ZdX s u t=some (rdB s.pages P G t):=by{
have hR:=(Zkn _ h.rd.pol).1
refine Zad ?_
unfold ZdX
refine Zh (Zwf s t hl) fun r hr=>?_
refine Zap ?_
rcases hr with ⟨h1,h2⟩ | ⟨h1,h2,h3⟩
refine Zs h1 (Zc ?_)
have:s.pages.any (fun p=>decide (p.title=t))=false:=by
 rw [List.any_eq_false]
 intro p hp
 simpa using h2 p hp
unfold rdB
rw [this]
rfl
refine ZH h1 ?_
refine Za (v:=Zjf P G 1 t) ?_ (Zc ?_)
refine Zad ?_
unfold ZhM
refine Za h.ref ?_
refine Za h.gref ?_
exact Za (v:=Zjf P G 1 t) (by unfold Zls;rw [if_pos (by omega)]) (Zc rfl)
have:s.pages.any (fun p=>decide (p.title=t))=true:=by
 rw [List.any_eq_true]
 exact ⟨_,h2,decide_eq_true h3⟩
unfold rdB
rw [this]
rfl}
def ZZ (l:List Watch) (u:ByteArray):List Title:=(l.filter fun w=>decide (w.user=u)).map (·.title)
theorem Zo7 (s:State) (u:ByteArray) (hl:s.watches.length<=1000):ZbV s u=some (ZZ s.watches u):=by{
refine Zad ?_
unfold ZbV
refine Zr (fun a:Int×List Title=>∃ n:Nat,a.1=n/\n<=s.watches.length/\a.2=ZZ (s.watches.take n) u) (fun a=>((s.watches.length:Int)-a.1).toNat) ⟨0,rfl,Nat.zero_le _,rfl⟩ (by first | omega | (dsimp only;omega)) ?_
rintro ⟨i,l⟩ rec ⟨n,e1,hn,hl2⟩ ih
dsimp only at e1 hl2 ⊢
subst e1
have hll:l.length<=n:=by
 rw [hl2]
 unfold ZZ
 rw [List.length_map]
 exact Nat.le_trans (List.length_filter_le ..) (by rw [List.length_take];omega)
refine Zd (fun hlt=>?_) fun hlt=>?_
refine Zw (fun k=>∀ l':List Title,l'=ZZ (s.watches.take (n+1)) u->Tot (k l') fun r=>r=ZZ s.watches u) (fun l' hl'=>ih _ ⟨n+1,(Zn).trans (by omega),by omega,hl'⟩ (by dsimp only;rw [Zn];omega)) fun k hk=>?_
refine Zq (by omega) hlt fun e _ he=>?_
rw [Int.toNat_natCast] at he
have htk:ZZ (s.watches.take (n+1)) u=ZZ (s.watches.take n) u++ZZ [e] u:=by
 unfold ZZ
 rw [List.take_add_one,he,List.filter_append,List.map_append]
 rfl
refine Zd (fun hu=>?_) fun hu=>hk _ ?_
refine ZC 2000 (by simp;omega) (by decide) (by decide) ?_
refine hk _ ?_
rw [htk,hl2]
unfold ZZ
simp [hu]
rw [htk,hl2]
unfold ZZ
simp [hu]
refine Zc ?_
have:n=s.watches.length:=by omega
subst this
rw [hl2,List.take_length]}
theorem Zic {l:List Watch} (h:l.Pairwise wlt) (u:ByteArray):(ZZ l u).Pairwise tlt:=by{
unfold ZZ
rw [List.pairwise_map]
refine List.Pairwise.imp_of_mem (R:=wlt) (fun {a b} ha hb hab=>?_) (h.filter _)
have h1:=of_decide_eq_true (List.mem_filter.1 ha).2
have h2:=of_decide_eq_true (List.mem_filter.1 hb).2
rcases hab with c | ⟨_,c⟩
rw [h1,h2] at c
exact absurd c (ZhH u)
exact c}
theorem Zg0 {l:List Watch} (h:l.Pairwise wlt) (hk:∀ w ∈ l,w.title ∈ ZcA) (u:ByteArray):(ZZ l u).length<=8:=
 Zlg (m:=ZcA) (Zdl (Zic h u)) fun x hx=>by
  obtain ⟨w,hw,rfl⟩:=List.mem_map.1 hx
  exact hk w (List.mem_filter.1 hw).1
theorem ZjY {α β:Type} {l m:List α} (f:α->List β) (h:l.Perm m):(l.flatMap f).Perm (m.flatMap f):=by{
induction h with
| nil=>exact .refl _
| cons x _ ih=>
  rw [List.flatMap_cons,List.flatMap_cons]
  exact ih.append_left _
| swap x y l=>
  rw [List.flatMap_cons,List.flatMap_cons,List.flatMap_cons,List.flatMap_cons,<- List.append_assoc,<- List.append_assoc]
  exact List.perm_append_comm.append_right _
| trans _ _ ih1 ih2=>exact ih1.trans ih2}
theorem ZmB (l:List Item) (h:l.length<=1000000):Za2 l=some l:=by
 unfold Za2
 rw [if_pos (by omega)]
theorem Zzu {s:State} {m:Int} {u:ByteArray} {P:Policy} {G:List ByteArray} (hs:ZlE s m) (hR:RdAt s u P G):∃ L:List Num,L.Perm (ents s.pages (rdB s.pages P G) (ZZ s.watches u))/\Srt nLt L/\L.length<=480/\∀ k:Int,ZeG s u k=some ((L.map (·.item)).drop (clip k L.length).toNat):=by{
obtain ⟨t0,ht,hv⟩:=hs.1.1.ex
have hp:=hs.1.plen
have hh:∀ p ∈ s.pages,1<=p.history.length/\p.history.length<=40:=fun p hp=>⟨(hv.pages p hp).hist.len1,(hv.pages p hp).hist.len2⟩
have hw:=Zg0 hv.wsort hs.2 u
obtain ⟨T,hT1,hT2⟩:=Zwc (ZZ s.watches u) (by omega) (Zdl (Zic hv.wsort u))
have hT3:=hT2.1.length_eq
obtain ⟨r,hr,L,hL1,hL2,hL3,rfl⟩:=Zui hR hv.sorted (by omega) hh T (by omega)
refine ⟨L,hL1.trans (ZjY _ hT2.1),hL2,hL3,fun k=>?_⟩
refine Zad ?_
unfold ZeG
refine Za (Zo7 s u (by have:=hv.wlen;omega)) ?_
refine Za hT1 ?_
refine Za hr ?_
obtain ⟨c1,c2⟩:=ZpE k L.length
have e1:((L.map (·.item)).length:Int)=(L.length:Int):=by rw [List.length_map]
rw [e1]
refine ZiB c1 c2 (by rw [List.length_map];exact Int.le_refl _) fun x hx _=>?_
have hx2:x=(L.map (·.item)).drop (clip k L.length).toNat:=by
 rw [hx]
 apply List.take_of_length_le
 rw [List.length_drop,List.length_map]
 show L.length-(clip k L.length).toNat<=(L.length:Int).toNat-(clip k L.length).toNat
 omega
exact Za (ZmB x (by rw [hx2,List.length_drop,List.length_map];omega)) (Zc hx2)}
theorem ZvZ {s:State} {m:Int} {u:ByteArray} {P:Policy} {G:List ByteArray} (hs:ZlE s m) (hR:RdAt s u P G):∃ L:List Num,L.Perm (ents s.pages (rdB s.pages P G) (s.pages.map (·.title)))/\Srt nLt L/\L.length<=480/\∀ k:Int,Zdn s u k=some ((L.map (·.item)).reverse.take (clip k L.length).toNat):=by{
obtain ⟨t0,ht,hv⟩:=hs.1.1.ex
have hp:=hs.1.plen
have hh:∀ p ∈ s.pages,1<=p.history.length/\p.history.length<=40:=fun p hp=>⟨(hv.pages p hp).hist.len1,(hv.pages p hp).hist.len2⟩
obtain ⟨T,hT1,hT2⟩:=Zwc (s.pages.map (·.title)) (by rw [List.length_map];omega) (Zdl hs.1.titles)
have hT3:=hT2.1.length_eq
rw [List.length_map] at hT3
obtain ⟨r,hr,L,hL1,hL2,hL3,rfl⟩:=Zui hR hv.sorted (by omega) hh T (by omega)
refine ⟨L,hL1.trans (ZjY _ hT2.1),hL2,hL3,fun k=>?_⟩
refine Zad ?_
unfold Zdn
refine Zr (fun a:Int×List Title=>∃ n:Nat,a.1=n/\n<=s.pages.length/\a.2=(s.pages.take n).map (·.title)) (fun a=>((s.pages.length:Int)-a.1).toNat) ⟨0,rfl,Nat.zero_le _,by simp⟩ (by first | omega | (dsimp only;omega)) ?_
rintro ⟨i,l⟩ rec ⟨n,e1,hn,e2⟩ ih
dsimp only at e1 e2 ⊢
subst e1 e2
refine Zd (fun hlt=>?_) fun hlt=>?_
refine Zq (by omega) hlt fun p _ hg=>?_
rw [Int.toNat_natCast] at hg
refine ZC 1000 (by simp;omega) (by decide) (by decide) ?_
refine ih _ ⟨n+1,(Zn).trans (by omega),by omega,?_⟩ (by dsimp only;rw [Zn];omega)
dsimp only
rw [List.take_add_one,hg]
simp
have:n=s.pages.length:=by omega
subst this
rw [List.take_length]
refine Za hT1 ?_
refine Za hr ?_
refine Za (Zuj _ (by rw [List.length_map];omega)) ?_
obtain ⟨c1,c2⟩:=ZpE k L.length
have e1:((L.map (·.item)).reverse.length:Int)=(L.length:Int):=by rw [List.length_reverse,List.length_map]
rw [e1]
refine ZiB (Int.le_refl _) c1 (by rw [e1];exact c2) fun x hx _=>?_
have hx2:x=(L.map (·.item)).reverse.take (clip k L.length).toNat:=by
 rw [hx]
 show List.take ((clip k L.length).toNat-(0:Int).toNat) (List.drop (0:Int).toNat _)=_
 rw [Int.toNat_zero,List.drop_zero,Nat.sub_zero]
exact Za (ZmB x (by rw [hx2,List.length_take];omega)) (Zc hx2)}
theorem Zrc {t0:ByteArray} {q:Int} {s:State} (hv:VS t0 q s) {f:Title->Bool} {T:List Title}:∀ x ∈ ents s.pages f T,∀ y ∈ ents s.pages f T,nLt x y=false->nLt y x=false->x=y:=by{
have mem:∀ x ∈ ents s.pages f T,∃ p ∈ s.pages,∃ (i:Nat) (r:Revision),p.history[i]? = some r/\x=Zo8 p.title r/\r.number=(i:Int)+1:=fun x hx=>by
 obtain ⟨t,_,hx⟩:=List.mem_flatMap.1 hx
 unfold Zo9 at hx
 split at hx
 obtain ⟨r,hr,rfl⟩:=List.mem_map.1 hx
 cases hf:s.pages.find? (fun p=>decide (p.title=t)) with
 | none=>
   unfold ZaV at hr
   rw [hf] at hr
   cases hr
 | some p=>
   have h1:=List.mem_of_find?_eq_some hf
   have h2:=of_decide_eq_true (p:=p.title=t) (List.find?_some (p:=fun p:Stored=>decide (p.title=t)) hf)
   subst h2
   rw [ZmC hv.sorted h1] at hr
   obtain ⟨i,hi⟩:=List.getElem?_of_mem hr
   exact ⟨p,h1,i,r,hi,rfl,(hv.pages p h1).hist.num i r hi⟩
 cases hx
intro x hx y hy h1 h2
obtain ⟨p,hp,i,r,hi,rfl,ni⟩:=mem x hx
obtain ⟨p',hp',i',r',hi',rfl,ni'⟩:=mem y hy
have k1:=Zi0.1 (of_decide_eq_false h1)
have k2:=Zi0.1 (of_decide_eq_false h2)
unfold Zyo Zo8 at k1 k2
dsimp only at k1 k2
have es:r.seq=r'.seq:=by
 rcases k1 with k | ⟨k,_⟩<;>rcases k2 with j | ⟨j,_⟩<;>omega
have k1':=(k1.resolve_left (by omega)).2
have k2':=(k2.resolve_left (by omega)).2
have et:p.title=p'.title:=by
 rcases k1' with k | ⟨k,_⟩
 rcases k2' with j | ⟨j,_⟩
 exact absurd j (ZiZ k)
 exact j
 exact k.symm
have en:r.number=r'.number:=by
 rcases k1' with k | ⟨_,k⟩
 rw [et] at k
 exact absurd k (ZaE _)
 rcases k2' with j | ⟨_,j⟩
 rw [et] at j
 exact absurd j (ZaE _)
 omega
obtain rfl:=Zx8 hv.sorted hp hp' et
obtain rfl:i=i':=by omega
rw [hi] at hi'
injection hi' with hi'
rw [hi']}
theorem Zuh {α:Type} {lt:α->α->Bool} {l m:List α} (hne:∀ a ∈ l,∀ b ∈ l,lt a b=false->lt b a=false->a=b) (p:l.Perm m) (h:Srt lt l) (k:Srt lt m):l=m:=
 p.eq_of_pairwise (le:=fun a b=>lt b a=false) (fun a b ha hb h k=>(hne b (p.mem_iff.2 hb) a ha h k).symm) h k
end
end Go.Proofs.YtpdaeclbndpabaaGreatDoor
