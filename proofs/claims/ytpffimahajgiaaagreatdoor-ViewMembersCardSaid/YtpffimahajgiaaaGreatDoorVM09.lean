/- The comparison of two links, in whatever world: blocks and draws are all that come. | DERIVED: THE SHELF's CONTRACTS AT THIS DUMP, IN PLAIN WORDS (tools/lay-plain.mjs out of 'TryzShelf2.lean', which tools/lay-shelf.mjs wrote): THE SAME DECLARATIONS UNDER THE SAME NAMES: 'import', 'namespace', 'open', 'def', 'theorem' AND NOTHING ELSE: no command of the shelf's: FOR A HAND-IN. .. | slices.SortFunc at links, of whatever length. | Functions of the program as Lean functions. Written by fxgen.py. | Functions of the program as Lean functions. Written by fxgen.py. | Functions of the program as Lean functions. Written by fxgen.py. | Functions of the program as Lean functions. Written by fxgen.py. -/
import Derived.Test.YtpffimahajgiaaaGreatDoorVM04
import Derived.Shelf.SlSortCmp.NoneTotal
import Derived.Shelf.SlGeneric
import Derived.Ground.SlsfProg
import Derived.Test.YtpffimahajgiaaaGreatDoorProg
import Derived.Test.YtpffimahajgiaaaGreatDoorVM08
import Derived.Test.YtpffimahajgiaaaGreatDoorVM05
set_option linter.unusedVariables false
namespace Go.Proofs.YtpffimahajgiaaaGreatDoor
open Go.RowKit
open Go.Sort (grow grow_grow alloc_eq_grow)
def Gw (w w':World):Prop:=∃ (q:Nat) (os:Array Obj),w'=grow (w.drewN q) os
theorem Gw.refl (w:World):Gw w w:=⟨0,#[],by simp [grow,World.drewN]⟩
theorem Gw.alloc {w w':World} (h:Gw w w') (o:Obj):Gw w (w'.alloc o):=by
 obtain ⟨q,os,rfl⟩:=h
 exact ⟨q,os ++ #[o],by rw [alloc_eq_grow,grow_grow]⟩
theorem Gw.drew {w w':World} (h:Gw w w'):Gw w w'.drew:=by
 obtain ⟨q,os,rfl⟩:=h
 exact ⟨q+1,os,rfl⟩
theorem Gw.trans {a b c:World} (h:Gw a b) (k:Gw b c):Gw a c:=by{
obtain ⟨q,os,rfl⟩:=h
obtain ⟨q2,os2,rfl⟩:=k
refine ⟨q+q2,os++os2,?_⟩
simp [grow,World.drewN,Array.append_assoc,Nat.add_assoc]}
theorem Gw.below {w w':World} (h:Gw w w'):Below w.heap.size w w':=by{
obtain ⟨q,os,rfl⟩:=h
refine ⟨rfl,rfl,rfl,by simp [grow,World.drewN],fun k hk=>?_⟩
show (w.heap++os)[k]? = w.heap[k]?
rw [Array.getElem?_append_left hk]}
set_option maxHeartbeats 400000 in
theorem Zjg (a b:Title) (w:World):Calls Tryz.prog 49 #[.agg #[.int .i64 a.space,.string a.name],.agg #[.int .i64 b.space,.string b.name]] w fun e w'=>e = .returned (.int .i64 (Title.cmp a b))/\Gw w w':=by{
go_enter Tryz.func49,Tryz.ntmps49
go_wp2
generalize hw1:(w.alloc _).alloc _=w1
have c0:w1.cell? ⟨w.heap.size,0,none⟩=some (.int .i64 a.space):=by subst hw1;go_simp
have c1:w1.cell? ⟨w.heap.size,1,none⟩=some (.string a.name):=by subst hw1;go_simp
have c2:w1.cell? ⟨w.heap.size+1,0,none⟩=some (.int .i64 b.space):=by subst hw1;go_simp
have c3:w1.cell? ⟨w.heap.size+1,1,none⟩=some (.string b.name):=by subst hw1;go_simp
have hb:Gw w w1:=by subst hw1;exact ((Gw.refl _).alloc _).alloc _
have HB:=Lib.hid hb
clear hw1 hb
go_region_held3 (fun W=>W.cell? ⟨w.heap.size,0,none⟩=some (.int .i64 a.space)/\W.cell? ⟨w.heap.size,1,none⟩=some (.string a.name)/\W.cell? ⟨w.heap.size+1,0,none⟩=some (.int .i64 b.space)/\W.cell? ⟨w.heap.size+1,1,none⟩=some (.string b.name)) (first | exact ⟨c0,c1,c2,c3⟩ | (refine ⟨?_,?_,?_,?_⟩<;>first | exact re1 (((Below.refl _ _).alloc (Nat.le_refl _) _).drew) (ZcU (by assumption)) (by assumption))) (first | (go_at_call 48;refine (Zk1 _ _ _).mono ?_;rintro e w' ⟨rfl,rfl⟩) | (go_at_call 99;refine (Zk2 _ _ _).mono ?_;rintro e w' ⟨rfl,rfl⟩)  | (go_at_call 47;refine (Zt6 _ _ _ [Lib.compareInt a.space b.space,Lib.compareBytes a.name.data.toList b.name.data.toList] _ (by exact SlR.built (fun x:Int=>[.int .i64 x]) (fun _ _ _=>rfl) _ _ rfl (by decide) rfl)).mono ?_;rintro e w' ⟨rfl,rfl⟩))
go_wp2
go_ret
exact ⟨rfl,(HB.out.alloc _).drew⟩}
def ZfP (a b:Link):Int:=orI [Lib.compareInt a.kind b.kind,Title.cmp a.title b.title]
def ZgL (x:Link):List Value:=[.int .i64 x.kind,.int .i64 x.title.space,.string x.title.name]
set_option maxHeartbeats 1000000 in
theorem Zkg (a b:Link) (w:World):Calls Tryz.prog 46 #[.agg (ZgL a).toArray,.agg (ZgL b).toArray] w fun e w'=>e = .returned (.int .i64 (ZfP a b))/\Gw w w':=by{
unfold ZgL
go_enter Tryz.func46,Tryz.ntmps46
go_wp2
generalize hw1:(w.alloc _).alloc _=w1
have c0:w1.cell? ⟨w.heap.size,0,none⟩=some (.int .i64 a.kind):=by subst hw1;go_simp
have c1:w1.cell? ⟨w.heap.size,1,none⟩=some (.int .i64 a.title.space):=by subst hw1;go_simp
have c2:w1.cell? ⟨w.heap.size,2,none⟩=some (.string a.title.name):=by subst hw1;go_simp
have c3:w1.cell? ⟨w.heap.size+1,0,none⟩=some (.int .i64 b.kind):=by subst hw1;go_simp
have c4:w1.cell? ⟨w.heap.size+1,1,none⟩=some (.int .i64 b.title.space):=by subst hw1;go_simp
have c5:w1.cell? ⟨w.heap.size+1,2,none⟩=some (.string b.title.name):=by subst hw1;go_simp
have hb:Gw w w1:=by subst hw1;exact ((Gw.refl _).alloc _).alloc _
have HB:=Lib.hid hb
have HF:Hid (∀ W,Gw w1 W->W.cell? ⟨w.heap.size,0,none⟩=some (.int .i64 a.kind)/\W.cell? ⟨w.heap.size,1,none⟩=some (.int .i64 a.title.space)/\W.cell? ⟨w.heap.size,2,none⟩=some (.string a.title.name)/\W.cell? ⟨w.heap.size+1,0,none⟩=some (.int .i64 b.kind)/\W.cell? ⟨w.heap.size+1,1,none⟩=some (.int .i64 b.title.space)/\W.cell? ⟨w.heap.size+1,2,none⟩=some (.string b.title.name)):=Lib.hid fun W hW=>⟨re1 hW.below (ZcU c0) c0,re1 hW.below (ZcU c1) c1,re1 hW.below (ZcU c2) c2,re1 hW.below (ZcU c3) c3,re1 hW.below (ZcU c4) c4,re1 hW.below (ZcU c5) c5⟩
clear hw1 hb
go_region_held3 (fun W=>Gw w1 W/\W.cell? ⟨w.heap.size,0,none⟩=some (.int .i64 a.kind)/\W.cell? ⟨w.heap.size,1,none⟩=some (.int .i64 a.title.space)/\W.cell? ⟨w.heap.size,2,none⟩=some (.string a.title.name)/\W.cell? ⟨w.heap.size+1,0,none⟩=some (.int .i64 b.kind)/\W.cell? ⟨w.heap.size+1,1,none⟩=some (.int .i64 b.title.space)/\W.cell? ⟨w.heap.size+1,2,none⟩=some (.string b.title.name)) (refine ⟨?_,HF.out _ ?_⟩<;>(repeat' first | assumption | exact Gw.refl _ | apply Gw.drew | apply Gw.alloc)) (first | (go_at_call 48;refine (Zk1 _ _ _).mono ?_;rintro e w' ⟨rfl,rfl⟩) | (go_at_call 49;refine (Zjg a.title b.title _).mono ?_;rintro e w2 ⟨rfl,hb2⟩;have hb3:Gw w1 w2:=Gw.trans (by (repeat' first | assumption | exact Gw.refl _ | apply Gw.drew | apply Gw.alloc)) hb2) | (go_at_call 47;refine (Zt6 _ _ _ [Lib.compareInt a.kind b.kind,Title.cmp a.title b.title] _ (by exact SlR.built (fun x:Int=>[.int .i64 x]) (fun _ _ _=>rfl) _ _ rfl (by decide) rfl)).mono ?_;rintro e w' ⟨rfl,rfl⟩))
go_wp2
go_ret
exact ⟨rfl,HB.out.trans (by (repeat' first | assumption | exact Gw.refl _ | apply Gw.drew | apply Gw.alloc))⟩}
end Go.Proofs.YtpffimahajgiaaaGreatDoor
namespace Go.Proofs
open Go.Shelf
def Tryz.sortLink_ren:Go.Shelf.Ren:=⟨fun | 6=>45 | 15=>97 | 14=>96 | 28=>162 | 29=>163 | 20=>154 | 21=>155 | 22=>156 | 23=>157 | 24=>158 | 25=>159 | 26=>160 | 27=>161 | 46=>203 | 47=>204 | 48=>205 | 49=>206 | 50=>207 | 57=>226 | n=>n,fun | 22=>49 | 24=>102 | 25=>106 | 3=>3 | 39=>131 | 0=>0 | 53=>194 | 55=>197 | 4=>4 | 46=>223 | 45=>222 | 50=>227 | 5=>5 | 9=>9 | 66=>252 | 70=>256 | 76=>261 | 77=>142 | n=>n,fun | n=>n⟩
theorem Tryz.sortLink:Go.Proofs.SlLaysF0.n6 Tryz.prog Tryz.sortLink_ren:={
 mixed:=by kernel_rfl
 f6:=⟨Tryz.f45.name,by decide,Tryz.func45.trans (congrArg some (by kernel_rfl))⟩
 f14:=⟨Tryz.f96.name,by decide,Tryz.func96.trans (congrArg some (by kernel_rfl))⟩
 f15:=Tryz.func97.trans (congrArg some (by kernel_rfl))
 f20:=⟨Tryz.f154.name,by decide,Tryz.func154.trans (congrArg some (by kernel_rfl))⟩
 f21:=⟨Tryz.f155.name,by decide,Tryz.func155.trans (congrArg some (by kernel_rfl))⟩
 f22:=⟨Tryz.f156.name,by decide,Tryz.func156.trans (congrArg some (by kernel_rfl))⟩
 f23:=⟨Tryz.f157.name,by decide,Tryz.func157.trans (congrArg some (by kernel_rfl))⟩
 f24:=⟨Tryz.f158.name,by decide,Tryz.func158.trans (congrArg some (by kernel_rfl))⟩
 f25:=⟨Tryz.f159.name,by decide,Tryz.func159.trans (congrArg some (by kernel_rfl))⟩
 f26:=⟨Tryz.f160.name,by decide,Tryz.func160.trans (congrArg some (by kernel_rfl))⟩
 f27:=⟨Tryz.f161.name,by decide,Tryz.func161.trans (congrArg some (by kernel_rfl))⟩
 f28:=Tryz.func162.trans (congrArg some (by kernel_rfl))
 f29:=Tryz.func163.trans (congrArg some (by kernel_rfl))
 f46:=⟨Tryz.f203.name,by decide,Tryz.func203.trans (congrArg some (by kernel_rfl))⟩
 f47:=Tryz.func204.trans (congrArg some (by kernel_rfl))
 f48:=Tryz.func205.trans (congrArg some (by kernel_rfl))
 f49:=⟨Tryz.f206.name,by decide,Tryz.func206.trans (congrArg some (by kernel_rfl))⟩
 f50:=⟨Tryz.f207.name,by decide,Tryz.func207.trans (congrArg some (by kernel_rfl))⟩
 f57:=⟨Tryz.f226.name,by decide,Tryz.func226.trans (congrArg some (by kernel_rfl))⟩
 t0:=Tryz.underlying0
 a0:=Tryz.isAgg0
 z0:=Tryz.sizeOf0
 v0:=Tryz.zeroValue0
 t3:=Tryz.underlying3
 a3:=Tryz.isAgg3
 z3:=Tryz.sizeOf3
 v3:=Tryz.zeroValue3
 t4:=Tryz.underlying4
 a4:=Tryz.isAgg4
 z4:=Tryz.sizeOf4
 v4:=Tryz.zeroValue4
 t5:=Tryz.underlying5
 a5:=Tryz.isAgg5
 z5:=Tryz.sizeOf5
 v5:=Tryz.zeroValue5
 t9:=Tryz.underlying9
 a9:=Tryz.isAgg9
 z9:=Tryz.sizeOf9
 v9:=Tryz.zeroValue9
 t22:=Tryz.underlying49
 a22:=Tryz.isAgg49
 z22:=Tryz.sizeOf49
 v22:=Tryz.zeroValue49
 t25:=Tryz.underlying106
 a25:=Tryz.isAgg106
 z25:=Tryz.sizeOf106
 v25:=Tryz.zeroValue106
 t39:=Tryz.underlying131
 a39:=Tryz.isAgg131
 z39:=Tryz.sizeOf131
 v39:=Tryz.zeroValue131
 t45:=Tryz.underlying222
 a45:=Tryz.isAgg222
 z45:=Tryz.sizeOf222
 v45:=Tryz.zeroValue222
 t46:=Tryz.underlying223
 a46:=Tryz.isAgg223
 z46:=Tryz.sizeOf223
 v46:=Tryz.zeroValue223
 t50:=Tryz.underlying227
 a50:=Tryz.isAgg227
 z50:=Tryz.sizeOf227
 v50:=Tryz.zeroValue227
 t53:=Tryz.underlying194
 a53:=Tryz.isAgg194
 z53:=Tryz.sizeOf194
 v53:=Tryz.zeroValue194
 t55:=Tryz.underlying197
 a55:=Tryz.isAgg197
 z55:=Tryz.sizeOf197
 v55:=Tryz.zeroValue197
 t66:=Tryz.underlying252
 a66:=Tryz.isAgg252
 z66:=Tryz.sizeOf252
 v66:=Tryz.zeroValue252
 t70:=Tryz.underlying256
 a70:=Tryz.isAgg256
 z70:=Tryz.sizeOf256
 v70:=Tryz.zeroValue256
 t76:=Tryz.underlying261
 a76:=Tryz.isAgg261
 z76:=Tryz.sizeOf261
 v76:=Tryz.zeroValue261
 t77:=Tryz.underlying142
 a77:=Tryz.isAgg142
 z77:=Tryz.sizeOf142
 v77:=Tryz.zeroValue142 }
end Go.Proofs
namespace Go.Proofs.YtpffimahajgiaaaGreatDoor
open VL Go.RowKit
open Go.Sort
theorem ZnV (a b:Int):orI [a,b]=ZsR a b:=by{
unfold orI ZsR
split
unfold orI
split
rename_i h;rw [h];rfl
rfl
rfl}
theorem titleCmp_laws:CmpLaws Title.cmp:=by{
have h:=cmpInt_laws.lex ZgQ (f:=Title.space) (g:=Title.name) (fun x y h1 h2=>by cases x;cases y;simp_all)
have e:Title.cmp=fun x y=>ZsR (Lib.compareInt x.space y.space) (Lib.compareBytes x.name.data.toList y.name.data.toList):=by
 funext x y
 exact ZnV _ _
rw [e]
exact h}
theorem linkCmp_laws:CmpLaws ZfP:=by{
have h:=cmpInt_laws.lex titleCmp_laws (f:=Link.kind) (g:=Link.title) (fun x y h1 h2=>by cases x;cases y;simp_all)
have e:ZfP=fun x y=>ZsR (Lib.compareInt x.kind y.kind) (Title.cmp x.title y.title):=by
 funext x y
 exact ZnV _ _
rw [e]
exact h}
instance:Inhabited Link:=⟨⟨0,⟨0,⟨#[]⟩⟩⟩⟩
def Zbe (p0:List Link):Option (List Link):=if p0.length<4611686018427387904 then some (Zar (leC ZfP) p0) else none
theorem ZfL (p0:List Link) (r:List Link) (h:Zbe p0=some r):ContractR Tryz.prog 45 [.fn 46 []] 102 3 (List.map Link.cs p0) (.tup []) (List.map Link.cs r):=by{
unfold Zbe at h
split at h
rename_i hl
injection h with h
subst h
have hk:∀ x,(ZgL x).length=3:=fun _=>rfl
have eg:∀ args w,(callFunc 46 args).run Tryz.prog w = .ok (.enter 46 args) w:=enters_of Tryz.func46 (by kernel_rfl) rfl
refine ZoW (enc:=ZgL) (cf:=ZfP) (by kernel_rfl) (fun _=>rfl) hk (fun _=>rfl) (fun x p hp=>?_) linkCmp_laws.swo linkCmp_laws.tot (fun cap W A=>AnyF.slices_SortFunc_none { Tryz.sortLink with } A cap _ W) (fun blk off cap d w hH hb hs=>?_) p0 hl
simp [Link.cs] at hp
rcases hp with rfl | rfl | rfl<;>rfl
exact AnyQ.slices_SortFunc_total Tryz.sortLink 3 Tryz.isAgg102 Tryz.sizeOf102 ZgL hk (fun x v hv=>by simp [ZgL] at hv;rcases hv with rfl | rfl | rfl<;>rfl) ZfP linkCmp_laws.swo 46 #[] blk off cap d w eg (fun m os dk _ x y=>(Zkg x y _).mono fun e w' h=>⟨h.1,h.2⟩) hH hb hs linkCmp_laws.tot
cases h}
end Go.Proofs.YtpffimahajgiaaaGreatDoor
set_option maxHeartbeats 4000000
set_option maxRecDepth 100000
namespace Go.Proofs.YtpffimahajgiaaaGreatDoor
open VL
def ZaX (p0:List Link):Option (List Link):=if (decide ((p0.length:Int)<2)) then some p0 else ZaF Zcp (fun f82 (x570:Int)=>if (decide (x570<(p0.length:Int))) then (atI p0 x570).bind fun e784=>(atI p0 (w64 (x570-1))).bind fun e785=>if (decide (e784=e785)) then (ZpR p0 x570).bind fun _=>ZaF Zcp (fun f97 ((x830,x831,x832):Int×Int×(List Link))=>if (decide (x831<(Zvz x832 x570))) then letk (fun (x847:Int) (x848:List Link)=>f97 (x847,(w64 (x831+1)),x848)) fun k98=>(atQ x832 x570 x831).bind fun e849=>(atQ x832 x570 (w64 (x831-1))).bind fun e850=>if (!decide (e849=e850)) then (atQ x832 x570 x831).bind fun e851=>(atI x832 x830).bind fun e852=>k98 (w64 (x830+1)) (Zfo x832 x830 e851) else k98 x830 x832 else (ZpR x832 x830).bind fun _=>(Zkf (ZuS x832 x830 (⟨0,(⟨0,(⟨#[]⟩:ByteArray)⟩:Title)⟩:Link)) 0 x830).bind fun l854=>some l854) (x570,1,p0) else f82 (w64 (x570+1)) else some p0) 1
theorem ZfR (p0:List Link) (r:List Link) (h:ZaX p0=some r):ContractS Tryz.prog 54 [] 102 3 (List.map Link.cs p0) (List.map Link.cs r):=by{
refine Zjz (O:=fun r=>(List.map Link.cs r)) h mix Tryz.func54 (by kernel_rfl) rfl (by kernel_rfl) fun r h=>?_
unfold ZaX at h
refine Zn ?_
refine rg ?_
refine rg ?_
refine lM Link.cs p0 ?_
refine cS h rfl (fun h=>?_) fun h=>?_
refine rg ?_
cases h
exact ZkK rfl rfl
refine rg ?_
refine bl ?_
refine ZB h fun f82 mf82 hf82 h=>?_
refine Zv (α:=Nat×Int) (fun a _=>mkS [(0,.row 0 (0,0)),(3,.int .i64 a.2)] [(0,some ((0,0),.row 102 3 false (List.map Link.cs p0)))] 2) (fun a=>ZaF a.1 f82 a.2=some r) (fun a=>a.1) (mf82,1) 2 h (sR []) (fun a _ h=>?_)
obtain ⟨mf82,x570⟩:=a
obtain ⟨mf82,rfl,h⟩:=ZC hf82 h
dsimp only at h ⊢
refine Zn ?_
refine rg ?_
refine lM Link.cs p0 ?_
refine cS h rfl (fun h=>?_) fun h=>?_
refine bl ?_
refine rg ?_
obtain ⟨e784,h584,h⟩:=bnd h
refine Zaa rfl h584 rfl rfl rfl (Zn ?_)
refine ZaJ rfl h584 rfl rfl rfl (Zn ?_)
obtain ⟨e785,h585,h⟩:=bnd h
refine Zaa rfl h585 rfl rfl rfl (Zn ?_)
refine ZaJ rfl h585 rfl rfl rfl (Zn ?_)
refine ZiN (.inl rfl) rfl rfl rfl rfl rfl (fun W=>Zvb e784 e785 W) (Zn ?_)
refine cS h rfl (fun h=>?_) fun h=>?_
refine rg ?_
obtain ⟨_,h586,h⟩:=bnd h
refine Zor rfl h586 rfl rfl rfl (Zn ?_)
refine rg ?_
refine bl ?_
refine ZB h fun f97 mf97 hf97 h=>?_
refine Zv (α:=Nat×(Int×Int×(List Link))) (fun a _=>mkS [(0,.row 0 (0,0)),(3,.int .i64 a.2.1),(4,.suf 0 (0,0) (x570).toNat 3),(5,.int .i64 a.2.2.1)] [(0,some ((0,0),.row 102 3 false (List.map Link.cs a.2.2.2)))] 2) (fun a=>ZaF a.1 f97 a.2=some r) (fun a=>a.1) (mf97,x570,1,p0) 2 h (sR []) (fun a _ h=>?_)
obtain ⟨mf97,x830,x831,x832⟩:=a
obtain ⟨mf97,rfl,h⟩:=ZC hf97 h
dsimp only at h ⊢
refine Zn ?_
refine rg ?_
refine ZtV (M:=x832) (f:=Link.cs) rfl rfl rfl (Zn ?_)
refine cS h rfl (fun h=>?_) fun h=>?_
refine ZbG h fun k98 hk98 h=>?_
refine Zbv (α:=Int×(List Link)) (fun a _=>mkS [(0,.row 0 (0,0)),(3,.int .i64 a.1),(4,.suf 0 (0,0) (x570).toNat 3),(5,.int .i64 x831)] [(0,some ((0,0),.row 102 3 false (List.map Link.cs a.2)))] 2) (fun a=>k98 a.1 a.2=some r) (Zn ?_) (fun a _ h=>?_)
refine bl ?_
refine rg ?_
obtain ⟨e849,h631,h⟩:=bnd h
refine Ze3 rfl h631 rfl rfl rfl (Zn ?_)
refine ZaJ rfl (ZgO h631) rfl rfl rfl (Zn ?_)
obtain ⟨e850,h632,h⟩:=bnd h
refine Ze3 rfl h632 rfl rfl rfl (Zn ?_)
refine ZaJ rfl (ZgO h632) rfl rfl rfl (Zn ?_)
refine ZiN (.inr rfl) rfl rfl rfl rfl rfl (fun W=>Zvc e849 e850 W) (Zn ?_)
refine cS h rfl (fun h=>?_) fun h=>?_
refine rg ?_
obtain ⟨e851,h633,h⟩:=bnd h
refine Ze3 rfl h633 rfl rfl rfl (Zn ?_)
refine ZaJ rfl (ZgO h633) rfl rfl rfl (Zn ?_)
obtain ⟨e852,h634,h⟩:=bnd h
refine Zaa rfl h634 rfl rfl rfl (Zn ?_)
refine Zcx (e':=e851) rfl h634 rfl rfl rfl rfl rfl rfl (Nat.le_of_ble_eq_true rfl) rfl rfl (Zn ?_)
refine rg ?_
exact jn ((w64 (x830+1)),(Zfo x832 x830 e851)) h (sR [])
exact jn (x830,x832) h (sR [])
obtain ⟨x847,x848⟩:=a
subst hk98
dsimp only at h ⊢
refine Zn ?_
refine rg ?_
exact rn (mf97,x847,(w64 (x831+1)),x848) h (sR [])
refine rg ?_
obtain ⟨_,h635,h⟩:=bnd h
refine Zor rfl h635 rfl rfl rfl (Zn ?_)
refine Zos (M:=x832) (f:=Link.cs) (zr:=(⟨0,(⟨0,(⟨#[]⟩:ByteArray)⟩:Title)⟩:Link)) rfl rfl rfl rfl rfl (Zn ?_)
refine rg ?_
obtain ⟨l854,h636,h⟩:=bnd h
refine Zot rfl h636 rfl rfl rfl (Zn ?_)
cases h
exact ZkK rfl rfl
refine rg ?_
exact rn (mf82,(w64 (x570+1))) h (sR [])
refine rg ?_
cases h
exact ZkK rfl rfl}
def ZK (p0:List Memb) (p1:Int) (p2:Int):Option (List Memb):=ZaF Zcp (fun f17 ((x95,x96):Int×(List Memb))=>if (decide (x95<p2)) then ZaF Zcp (fun f24 ((x253,x254):Int×(List Memb))=>letk (fun (x273:Bool)=>if x273 then (atI x254 (w64 (x253-1))).bind fun e278=>(atI x254 x253).bind fun e279=>(atI x254 x253).bind fun e280=>(atI (Zfo x254 x253 e278) (w64 (x253-1))).bind fun e281=>f24 ((w64 (x253-1)),(Zfo (Zfo x254 x253 e278) (w64 (x253-1)) e279)) else f17 ((w64 (x95+1)),x254)) fun k25=>if (decide (p1<x253)) then (atI x254 x253).bind fun e282=>(atI x254 (w64 (x253-1))).bind fun e283=>(Zb5 e282 e283).bind fun r284=>k25 (decide (r284<0)) else k25 false) (x95,x96) else some x96) ((w64 (p1+1)),p0)
theorem ZaZ (p0:List Memb) (p1:Int) (p2:Int) (r:List Memb) (h:ZK p0 p1 p2=some r):ContractR Tryz.prog 165 [.int .i64 p1,.int .i64 p2,.fn 51 []] 56 3 (List.map Memb.cs p0) (.tup []) (List.map Memb.cs r):=by{
refine Zdm (R:=fun r=>.tup []) (O:=fun r=>(List.map Memb.cs r)) h mix Tryz.func165 (by kernel_rfl) rfl (by kernel_rfl) fun r h=>?_
unfold ZK at h
refine Zn ?_
refine rg ?_
refine bl ?_
refine ZB h fun f17 mf17 hf17 h=>?_
refine Zv (α:=Nat×(Int×(List Memb))) (fun a _=>mkS [(0,.row 0 (0,0)),(1,.int .i64 p1),(2,.int .i64 p2),(3,.fn 51 []),(8,.int .i64 a.2.1)] [(0,some ((0,0),.row 56 3 false (List.map Memb.cs a.2.2)))] 2) (fun a=>ZaF a.1 f17 a.2=some r) (fun a=>a.1) (mf17,(w64 (p1+1)),p0) 2 h (Zw [] ⟨rfl,rfl,rfl,rfl,rfl,trivial⟩ ⟨⟨rfl,rfl⟩,trivial⟩ rfl) (fun a _ h=>?_)
obtain ⟨mf17,x95,x96⟩:=a
obtain ⟨mf17,rfl,h⟩:=ZC hf17 h
dsimp only at h ⊢
refine Zn ?_
refine rg ?_
refine cS h rfl (fun h=>?_) fun h=>?_
refine bl ?_
refine rg ?_
refine bl ?_
refine ZB h fun f24 mf24 hf24 h=>?_
refine Zv (α:=Nat×(Int×(List Memb))) (fun a _=>mkS [(0,.row 0 (0,0)),(1,.int .i64 p1),(2,.int .i64 p2),(3,.fn 51 []),(8,.int .i64 x95),(9,.int .i64 a.2.1)] [(0,some ((0,0),.row 56 3 false (List.map Memb.cs a.2.2)))] 2) (fun a=>ZaF a.1 f24 a.2=some r) (fun a=>a.1) (mf24,x95,x96) 2 h (Zw [] ⟨rfl,rfl,rfl,rfl,rfl,rfl,trivial⟩ ⟨⟨rfl,rfl⟩,trivial⟩ rfl) (fun a _ h=>?_)
obtain ⟨mf24,x253,x254⟩:=a
obtain ⟨mf24,rfl,h⟩:=ZC hf24 h
dsimp only at h ⊢
refine Zn ?_
refine jL h (fun x273=>mkS [(0,.row 0 (0,0)),(1,.int .i64 p1),(2,.int .i64 p2),(3,.fn 51 []),(8,.int .i64 x95),(9,.int .i64 x253),(34,.bool x273)] [(0,some ((0,0),.row 56 3 false (List.map Memb.cs x254)))] 2) (fun k25 h=>?_) fun x273 h=>?_
refine rg ?_
refine kS 21 h rfl (fun h=>?_) fun h=>?_
obtain ⟨e282,h250,h⟩:=bnd h
refine Zaa rfl h250 rfl rfl rfl (Zn ?_)
refine ZaJ rfl h250 rfl rfl rfl (Zn ?_)
obtain ⟨e283,h251,h⟩:=bnd h
refine Zaa rfl h251 rfl rfl rfl (Zn ?_)
refine ZaJ rfl h251 rfl rfl rfl (Zn ?_)
obtain ⟨r284,h252,h⟩:=bnd h
refine Zfs (Lc:=[]) (args1:=[e282.pv,e283.pv]) (ZdU _ _ _ h252) rfl rfl rfl rfl (Zn ?_)
exact jn (decide (r284<0)) h (Zw [] ⟨rfl,rfl,rfl,rfl,rfl,rfl,rfl,trivial⟩ ⟨⟨rfl,rfl⟩,trivial⟩ rfl)
iterate 12 refine ZE rfl (Zn ?_)
exact jn false h (Zw [] ⟨rfl,rfl,rfl,rfl,rfl,rfl,rfl,trivial⟩ ⟨⟨rfl,rfl⟩,trivial⟩ rfl)
refine cS h rfl (fun h=>?_) fun h=>?_
refine bl ?_
refine rg ?_
obtain ⟨e278,h246,h⟩:=bnd h
refine Zaa rfl h246 rfl rfl rfl (Zn ?_)
refine ZaJ rfl h246 rfl rfl rfl (Zn ?_)
obtain ⟨e279,h247,h⟩:=bnd h
refine Zaa rfl h247 rfl rfl rfl (Zn ?_)
refine ZaJ rfl h247 rfl rfl rfl (Zn ?_)
obtain ⟨e280,h248,h⟩:=bnd h
refine Zaa rfl h248 rfl rfl rfl (Zn ?_)
refine Zcx (e':=e278) rfl h248 rfl rfl rfl rfl rfl rfl (Nat.le_of_ble_eq_true rfl) rfl rfl (Zn ?_)
obtain ⟨e281,h249,h⟩:=bnd h
refine Zaa rfl h249 rfl rfl rfl (Zn ?_)
refine Zcx (e':=e279) rfl h249 rfl rfl rfl rfl rfl rfl (Nat.le_of_ble_eq_true rfl) rfl rfl (Zn ?_)
refine rg ?_
exact rn (mf24,(w64 (x253-1)),(Zfo (Zfo x254 x253 e278) (w64 (x253-1)) e279)) h (Zw [] ⟨rfl,rfl,rfl,rfl,rfl,rfl,trivial⟩ ⟨⟨rfl,rfl⟩,trivial⟩ rfl)
refine rg ?_
exact rn (mf17,(w64 (x95+1)),x254) h (Zw [] ⟨rfl,rfl,rfl,rfl,rfl,trivial⟩ ⟨⟨rfl,rfl⟩,trivial⟩ rfl)
cases h
exact Zew rfl rfl rfl}
def ZJ (p0:List Memb) (p1:Int) (p2:Int) (p3:Int):Option (List Memb):=ZaF Zcp (fun f1 ((x9,x10):Int×(List Memb))=>if (decide (x9<p3)) then (atI x10 (w64 (p2+x9))).bind fun e23=>(atI x10 (w64 (p1+x9))).bind fun e24=>(atI x10 (w64 (p1+x9))).bind fun e25=>(atI (Zfo x10 (w64 (p1+x9)) e23) (w64 (p2+x9))).bind fun e26=>f1 ((w64 (x9+1)),(Zfo (Zfo x10 (w64 (p1+x9)) e23) (w64 (p2+x9)) e24)) else some x10) (0,p0)
theorem ZaE (p0:List Memb) (p1:Int) (p2:Int) (p3:Int) (r:List Memb) (h:ZJ p0 p1 p2 p3=some r):ContractR Tryz.prog 227 [.int .i64 p1,.int .i64 p2,.int .i64 p3,.fn 51 []] 56 3 (List.map Memb.cs p0) (.tup []) (List.map Memb.cs r):=by{
refine Zdm (R:=fun r=>.tup []) (O:=fun r=>(List.map Memb.cs r)) h mix Tryz.func227 (by kernel_rfl) rfl (by kernel_rfl) fun r h=>?_
unfold ZJ at h
refine Zn ?_
refine rg ?_
refine bl ?_
refine ZB h fun f1 mf1 hf1 h=>?_
refine Zv (α:=Nat×(Int×(List Memb))) (fun a _=>mkS [(0,.row 0 (0,0)),(1,.int .i64 p1),(2,.int .i64 p2),(3,.int .i64 p3),(10,.int .i64 a.2.1)] [(0,some ((0,0),.row 56 3 false (List.map Memb.cs a.2.2)))] 2) (fun a=>ZaF a.1 f1 a.2=some r) (fun a=>a.1) (mf1,0,p0) 2 h (sR []) (fun a _ h=>?_)
obtain ⟨mf1,x9,x10⟩:=a
obtain ⟨mf1,rfl,h⟩:=ZC hf1 h
dsimp only at h ⊢
refine Zn ?_
refine rg ?_
refine cS h rfl (fun h=>?_) fun h=>?_
refine bl ?_
refine rg ?_
obtain ⟨e23,h21,h⟩:=bnd h
refine Zaa rfl h21 rfl rfl rfl (Zn ?_)
refine ZaJ rfl h21 rfl rfl rfl (Zn ?_)
obtain ⟨e24,h22,h⟩:=bnd h
refine Zaa rfl h22 rfl rfl rfl (Zn ?_)
refine ZaJ rfl h22 rfl rfl rfl (Zn ?_)
obtain ⟨e25,h23,h⟩:=bnd h
refine Zaa rfl h23 rfl rfl rfl (Zn ?_)
refine Zcx (e':=e23) rfl h23 rfl rfl rfl rfl rfl rfl (Nat.le_of_ble_eq_true rfl) rfl rfl (Zn ?_)
obtain ⟨e26,h24,h⟩:=bnd h
refine Zaa rfl h24 rfl rfl rfl (Zn ?_)
refine Zcx (e':=e24) rfl h24 rfl rfl rfl rfl rfl rfl (Nat.le_of_ble_eq_true rfl) rfl rfl (Zn ?_)
refine rg ?_
exact rn (mf1,(w64 (x9+1)),(Zfo (Zfo x10 (w64 (p1+x9)) e23) (w64 (p2+x9)) e24)) h (sR [])
cases h
exact Zew rfl rfl rfl}
def ZW (p0:List Memb) (p1:Int) (p2:Int) (p3:Int):Option (List Memb):=ZaF Zcp (fun f2 ((x12,x13,x14):Int×Int×(List Memb))=>if (!decide (x12=x13)) then if (decide (x13<x12)) then (ZJ x14 (w64 (p2-x12)) p2 x13).bind fun r17=>f2 ((w64 (x12-x13)),x13,r17) else (ZJ x14 (w64 (p2-x12)) (w64 ((w64 (p2+x13))-x12)) x12).bind fun r18=>f2 (x12,(w64 (x13-x12)),r18) else (ZJ x14 (w64 (p2-x12)) p2 x12).bind fun r19=>some r19) ((w64 (p2-p1)),(w64 (p3-p2)),p0)
theorem ZcX (p0:List Memb) (p1:Int) (p2:Int) (p3:Int) (r:List Memb) (h:ZW p0 p1 p2 p3=some r):ContractR Tryz.prog 209 [.int .i64 p1,.int .i64 p2,.int .i64 p3,.fn 51 []] 56 3 (List.map Memb.cs p0) (.tup []) (List.map Memb.cs r):=by{
refine Zdm (R:=fun r=>.tup []) (O:=fun r=>(List.map Memb.cs r)) h mix Tryz.func209 (by kernel_rfl) rfl (by kernel_rfl) fun r h=>?_
unfold ZW at h
refine Zn ?_
refine rg ?_
refine rg ?_
refine bl ?_
refine ZB h fun f2 mf2 hf2 h=>?_
refine Zv (α:=Nat×(Int×Int×(List Memb))) (fun a _=>mkS [(0,.row 0 (0,0)),(2,.int .i64 p2),(4,.fn 51 []),(10,.int .i64 a.2.1),(11,.int .i64 a.2.2.1)] [(0,some ((0,0),.row 56 3 false (List.map Memb.cs a.2.2.2)))] 2) (fun a=>ZaF a.1 f2 a.2=some r) (fun a=>a.1) (mf2,(w64 (p2-p1)),(w64 (p3-p2)),p0) 2 h (Zw [] ⟨rfl,rfl,rfl,rfl,rfl,trivial⟩ ⟨⟨rfl,rfl⟩,trivial⟩ rfl) (fun a _ h=>?_)
obtain ⟨mf2,x12,x13,x14⟩:=a
obtain ⟨mf2,rfl,h⟩:=ZC hf2 h
dsimp only at h ⊢
refine Zn ?_
refine rg ?_
refine cS h rfl (fun h=>?_) fun h=>?_
refine bl ?_
refine rg ?_
refine cS h rfl (fun h=>?_) fun h=>?_
refine rg ?_
obtain ⟨r17,h11,h⟩:=bnd h
refine Zdj (ZaE _ _ _ _ _ h11) rfl rfl rfl rfl rfl (Zn ?_)
refine rg ?_
exact rn (mf2,(w64 (x12-x13)),x13,r17) h (Zw [] ⟨rfl,rfl,rfl,rfl,rfl,trivial⟩ ⟨⟨rfl,rfl⟩,trivial⟩ rfl)
refine rg ?_
obtain ⟨r18,h12,h⟩:=bnd h
refine Zdj (ZaE _ _ _ _ _ h12) rfl rfl rfl rfl rfl (Zn ?_)
refine rg ?_
exact rn (mf2,x12,(w64 (x13-x12)),r18) h (Zw [] ⟨rfl,rfl,rfl,rfl,rfl,trivial⟩ ⟨⟨rfl,rfl⟩,trivial⟩ rfl)
refine rg ?_
obtain ⟨r19,h13,h⟩:=bnd h
refine Zdj (ZaE _ _ _ _ _ h13) rfl rfl rfl rfl rfl (Zn ?_)
cases h
exact Zew rfl rfl rfl}
def Zp:Nat->(List Memb)->Int->Int->Int->Option (List Memb) | 0,_,_,_,_=>none | mF+1,p0,p1,p2,p3=>if (decide ((w64 (p2-p1))=1)) then ZaF Zcp (fun f6 ((x99,x100):Int×Int)=>if (decide (x99<x100)) then (Ztf .u64 (IntKind.wrap .u64 (w64 (x99+x100))) 1).bind fun q105=>(atI p0 (IntKind.wrap .i64 q105)).bind fun e106=>(atI p0 p1).bind fun e107=>(Zb5 e106 e107).bind fun r108=>if (decide (r108<0)) then f6 ((w64 ((IntKind.wrap .i64 q105)+1)),x100) else f6 (x99,(IntKind.wrap .i64 q105)) else ZaF Zcp (fun f8 ((x143,x144):Int×(List Memb))=>if (decide (x143<(w64 (x99-1)))) then (atI x144 (w64 (x143+1))).bind fun e157=>(atI x144 x143).bind fun e158=>(atI x144 x143).bind fun e159=>(atI (Zfo x144 x143 e157) (w64 (x143+1))).bind fun e160=>f8 ((w64 (x143+1)),(Zfo (Zfo x144 x143 e157) (w64 (x143+1)) e158)) else some x144) (p1,p0)) (p2,p3) else if (decide ((w64 (p3-p2))=1)) then ZaF Zcp (fun f14 ((x259,x260):Int×Int)=>if (decide (x259<x260)) then (Ztf .u64 (IntKind.wrap .u64 (w64 (x259+x260))) 1).bind fun q265=>(atI p0 p2).bind fun e266=>(atI p0 (IntKind.wrap .i64 q265)).bind fun e267=>(Zb5 e266 e267).bind fun r268=>if (!(decide (r268<0))) then f14 ((w64 ((IntKind.wrap .i64 q265)+1)),x260) else f14 (x259,(IntKind.wrap .i64 q265)) else ZaF Zcp (fun f16 ((x303,x304):Int×(List Memb))=>if (decide (x259<x303)) then (atI x304 (w64 (x303-1))).bind fun e317=>(atI x304 x303).bind fun e318=>(atI x304 x303).bind fun e319=>(atI (Zfo x304 x303 e317) (w64 (x303-1))).bind fun e320=>f16 ((w64 (x303-1)),(Zfo (Zfo x304 x303 e317) (w64 (x303-1)) e318)) else some x304) (p2,p0)) (p1,p2) else (Ztf .u64 (IntKind.wrap .u64 (w64 (p1+p3))) 1).bind fun q321=>letk (fun (x322:Int) (x323:Int)=>ZaF Zcp (fun f19 ((x342,x343):Int×Int)=>if (decide (x342<x343)) then (Ztf .u64 (IntKind.wrap .u64 (w64 (x342+x343))) 1).bind fun q348=>(atI p0 (w64 ((w64 ((w64 ((IntKind.wrap .i64 q321)+p2))-1))-(IntKind.wrap .i64 q348)))).bind fun e349=>(atI p0 (IntKind.wrap .i64 q348)).bind fun e350=>(Zb5 e349 e350).bind fun r351=>if (!(decide (r351<0))) then f19 ((w64 ((IntKind.wrap .i64 q348)+1)),x343) else f19 (x342,(IntKind.wrap .i64 q348)) else letk (fun (x352:Bool)=>letk (fun (x354:List Memb)=>letk (fun (x355:Bool)=>letk (fun (x357:List Memb)=>letk (fun (x358:Bool)=>if x358 then (Zp mF x357 (IntKind.wrap .i64 q321) (w64 ((w64 ((IntKind.wrap .i64 q321)+p2))-x342)) p3).bind fun r359=>some r359 else some x357) fun k24=>if (decide ((IntKind.wrap .i64 q321)<(w64 ((w64 ((IntKind.wrap .i64 q321)+p2))-x342)))) then k24 (decide ((w64 ((w64 ((IntKind.wrap .i64 q321)+p2))-x342))<p3)) else k24 false) fun k23=>if x355 then (Zp mF x354 p1 x342 (IntKind.wrap .i64 q321)).bind fun r360=>k23 r360 else k23 x354) fun k22=>if (decide (p1<x342)) then k22 (decide (x342<(IntKind.wrap .i64 q321))) else k22 false) fun k21=>if x352 then (ZW p0 x342 p2 (w64 ((w64 ((IntKind.wrap .i64 q321)+p2))-x342))).bind fun r361=>k21 r361 else k21 p0) fun k20=>if (decide (x342<p2)) then k20 (decide (p2<(w64 ((w64 ((IntKind.wrap .i64 q321)+p2))-x342)))) else k20 false) (x322,x323)) fun k17=>if (decide ((IntKind.wrap .i64 q321)<p2)) then k17 (w64 ((w64 ((IntKind.wrap .i64 q321)+p2))-p3)) (IntKind.wrap .i64 q321) else k17 p1 p2
theorem Zbr (mF:Nat):∀ (p0:List Memb) (p1:Int) (p2:Int) (p3:Int) (r:List Memb),Zp mF p0 p1 p2 p3=some r->ContractR Tryz.prog 166 [.int .i64 p1,.int .i64 p2,.int .i64 p3,.fn 51 []] 56 3 (List.map Memb.cs p0) (.tup []) (List.map Memb.cs r):=by{
induction mF with
| zero=>intro p0 p1 p2 p3 r h;cases h
| succ mF ihF=>
intro p0 p1 p2 p3 r h
refine Zdm (R:=fun r=>.tup []) (O:=fun r=>(List.map Memb.cs r)) h mix Tryz.func166 (by kernel_rfl) rfl (by kernel_rfl) fun r h=>?_
simp only [Zp] at h
refine Zn ?_
refine rg ?_
refine cS h rfl (fun h=>?_) fun h=>?_
refine rg ?_
refine rg ?_
refine bl ?_
refine ZB h fun f6 mf6 hf6 h=>?_
refine Zv (α:=Nat×(Int×Int)) (fun a _=>mkS [(0,.row 0 (0,0)),(1,.int .i64 p1),(4,.fn 51 []),(10,.int .i64 a.2.1),(11,.int .i64 a.2.2)] [(0,some ((0,0),.row 56 3 false (List.map Memb.cs p0)))] 2) (fun a=>ZaF a.1 f6 a.2=some r) (fun a=>a.1) (mf6,p2,p3) 2 h (Zw [] ⟨rfl,rfl,rfl,rfl,rfl,trivial⟩ ⟨⟨rfl,rfl⟩,trivial⟩ rfl) (fun a _ h=>?_)
obtain ⟨mf6,x99,x100⟩:=a
obtain ⟨mf6,rfl,h⟩:=ZC hf6 h
dsimp only at h ⊢
refine Zn ?_
refine rg ?_
refine cS h rfl (fun h=>?_) fun h=>?_
refine bl ?_
refine rg ?_
obtain ⟨q105,h93,h⟩:=bnd h
refine ZoG rfl h93 rfl rfl (Zn ?_)
refine rg ?_
obtain ⟨e106,h94,h⟩:=bnd h
refine Zaa rfl h94 rfl rfl rfl (Zn ?_)
refine ZaJ rfl h94 rfl rfl rfl (Zn ?_)
obtain ⟨e107,h95,h⟩:=bnd h
refine Zaa rfl h95 rfl rfl rfl (Zn ?_)
refine ZaJ rfl h95 rfl rfl rfl (Zn ?_)
obtain ⟨r108,h96,h⟩:=bnd h
refine Zfs (Lc:=[]) (args1:=[e106.pv,e107.pv]) (ZdU _ _ _ h96) rfl rfl rfl rfl (Zn ?_)
refine cS h rfl (fun h=>?_) fun h=>?_
refine rg ?_
exact rn (mf6,(w64 ((IntKind.wrap .i64 q105)+1)),x100) h (Zw [] ⟨rfl,rfl,rfl,rfl,rfl,trivial⟩ ⟨⟨rfl,rfl⟩,trivial⟩ rfl)
refine rg ?_
exact rn (mf6,x99,(IntKind.wrap .i64 q105)) h (Zw [] ⟨rfl,rfl,rfl,rfl,rfl,trivial⟩ ⟨⟨rfl,rfl⟩,trivial⟩ rfl)
refine rg ?_
refine bl ?_
refine ZB h fun f8 mf8 hf8 h=>?_
refine Zv (α:=Nat×(Int×(List Memb))) (fun a _=>mkS [(0,.row 0 (0,0)),(10,.int .i64 x99),(13,.int .i64 a.2.1)] [(0,some ((0,0),.row 56 3 false (List.map Memb.cs a.2.2)))] 2) (fun a=>ZaF a.1 f8 a.2=some r) (fun a=>a.1) (mf8,p1,p0) 2 h (sR []) (fun a _ h=>?_)
obtain ⟨mf8,x143,x144⟩:=a
obtain ⟨mf8,rfl,h⟩:=ZC hf8 h
dsimp only at h ⊢
refine Zn ?_
refine rg ?_
refine cS h rfl (fun h=>?_) fun h=>?_
refine bl ?_
refine rg ?_
obtain ⟨e157,h141,h⟩:=bnd h
refine Zaa rfl h141 rfl rfl rfl (Zn ?_)
refine ZaJ rfl h141 rfl rfl rfl (Zn ?_)
obtain ⟨e158,h142,h⟩:=bnd h
refine Zaa rfl h142 rfl rfl rfl (Zn ?_)
refine ZaJ rfl h142 rfl rfl rfl (Zn ?_)
obtain ⟨e159,h143,h⟩:=bnd h
refine Zaa rfl h143 rfl rfl rfl (Zn ?_)
refine Zcx (e':=e157) rfl h143 rfl rfl rfl rfl rfl rfl (Nat.le_of_ble_eq_true rfl) rfl rfl (Zn ?_)
obtain ⟨e160,h144,h⟩:=bnd h
refine Zaa rfl h144 rfl rfl rfl (Zn ?_)
refine Zcx (e':=e158) rfl h144 rfl rfl rfl rfl rfl rfl (Nat.le_of_ble_eq_true rfl) rfl rfl (Zn ?_)
refine rg ?_
exact rn (mf8,(w64 (x143+1)),(Zfo (Zfo x144 x143 e157) (w64 (x143+1)) e158)) h (sR [])
cases h
exact Zt7 rfl rfl rfl
refine rg ?_
refine cS h rfl (fun h=>?_) fun h=>?_
refine rg ?_
refine rg ?_
refine bl ?_
refine ZB h fun f14 mf14 hf14 h=>?_
refine Zv (α:=Nat×(Int×Int)) (fun a _=>mkS [(0,.row 0 (0,0)),(2,.int .i64 p2),(4,.fn 51 []),(14,.int .i64 a.2.1),(15,.int .i64 a.2.2)] [(0,some ((0,0),.row 56 3 false (List.map Memb.cs p0)))] 2) (fun a=>ZaF a.1 f14 a.2=some r) (fun a=>a.1) (mf14,p1,p2) 2 h (Zw [] ⟨rfl,rfl,rfl,rfl,rfl,trivial⟩ ⟨⟨rfl,rfl⟩,trivial⟩ rfl) (fun a _ h=>?_)
obtain ⟨mf14,x259,x260⟩:=a
obtain ⟨mf14,rfl,h⟩:=ZC hf14 h
dsimp only at h ⊢
refine Zn ?_
refine rg ?_
refine cS h rfl (fun h=>?_) fun h=>?_
refine bl ?_
refine rg ?_
obtain ⟨q265,h237,h⟩:=bnd h
refine ZoG rfl h237 rfl rfl (Zn ?_)
refine rg ?_
obtain ⟨e266,h238,h⟩:=bnd h
refine Zaa rfl h238 rfl rfl rfl (Zn ?_)
refine ZaJ rfl h238 rfl rfl rfl (Zn ?_)
obtain ⟨e267,h239,h⟩:=bnd h
refine Zaa rfl h239 rfl rfl rfl (Zn ?_)
refine ZaJ rfl h239 rfl rfl rfl (Zn ?_)
obtain ⟨r268,h240,h⟩:=bnd h
refine Zfs (Lc:=[]) (args1:=[e266.pv,e267.pv]) (ZdU _ _ _ h240) rfl rfl rfl rfl (Zn ?_)
refine cS h rfl (fun h=>?_) fun h=>?_
refine rg ?_
exact rn (mf14,(w64 ((IntKind.wrap .i64 q265)+1)),x260) h (Zw [] ⟨rfl,rfl,rfl,rfl,rfl,trivial⟩ ⟨⟨rfl,rfl⟩,trivial⟩ rfl)
refine rg ?_
exact rn (mf14,x259,(IntKind.wrap .i64 q265)) h (Zw [] ⟨rfl,rfl,rfl,rfl,rfl,trivial⟩ ⟨⟨rfl,rfl⟩,trivial⟩ rfl)
refine rg ?_
refine bl ?_
refine ZB h fun f16 mf16 hf16 h=>?_
refine Zv (α:=Nat×(Int×(List Memb))) (fun a _=>mkS [(0,.row 0 (0,0)),(14,.int .i64 x259),(17,.int .i64 a.2.1)] [(0,some ((0,0),.row 56 3 false (List.map Memb.cs a.2.2)))] 2) (fun a=>ZaF a.1 f16 a.2=some r) (fun a=>a.1) (mf16,p2,p0) 2 h (sR []) (fun a _ h=>?_)
obtain ⟨mf16,x303,x304⟩:=a
obtain ⟨mf16,rfl,h⟩:=ZC hf16 h
dsimp only at h ⊢
refine Zn ?_
refine rg ?_
refine cS h rfl (fun h=>?_) fun h=>?_
refine bl ?_
refine rg ?_
obtain ⟨e317,h285,h⟩:=bnd h
refine Zaa rfl h285 rfl rfl rfl (Zn ?_)
refine ZaJ rfl h285 rfl rfl rfl (Zn ?_)
obtain ⟨e318,h286,h⟩:=bnd h
refine Zaa rfl h286 rfl rfl rfl (Zn ?_)
refine ZaJ rfl h286 rfl rfl rfl (Zn ?_)
obtain ⟨e319,h287,h⟩:=bnd h
refine Zaa rfl h287 rfl rfl rfl (Zn ?_)
refine Zcx (e':=e317) rfl h287 rfl rfl rfl rfl rfl rfl (Nat.le_of_ble_eq_true rfl) rfl rfl (Zn ?_)
obtain ⟨e320,h288,h⟩:=bnd h
refine Zaa rfl h288 rfl rfl rfl (Zn ?_)
refine Zcx (e':=e318) rfl h288 rfl rfl rfl rfl rfl rfl (Nat.le_of_ble_eq_true rfl) rfl rfl (Zn ?_)
refine rg ?_
exact rn (mf16,(w64 (x303-1)),(Zfo (Zfo x304 x303 e317) (w64 (x303-1)) e318)) h (sR [])
cases h
exact Zt7 rfl rfl rfl
refine rg ?_
obtain ⟨q321,h289,h⟩:=bnd h
refine ZoG rfl h289 rfl rfl (Zn ?_)
refine rg ?_
refine rg ?_
refine rg ?_
refine ZbG h fun k17 hk17 h=>?_
refine Zbv (α:=Int×Int) (fun a _=>mkS [(0,.row 0 (0,0)),(1,.int .i64 p1),(2,.int .i64 p2),(3,.int .i64 p3),(4,.fn 51 []),(18,.int .i64 (IntKind.wrap .i64 q321)),(19,.int .i64 (w64 ((IntKind.wrap .i64 q321)+p2))),(20,.int .i64 a.1),(21,.int .i64 a.2)] [(0,some ((0,0),.row 56 3 false (List.map Memb.cs p0)))] 2) (fun a=>k17 a.1 a.2=some r) (Zn ?_) (fun a _ h=>?_)
refine cS h rfl (fun h=>?_) fun h=>?_
refine rg ?_
refine rg ?_
exact jn ((w64 ((w64 ((IntKind.wrap .i64 q321)+p2))-p3)),(IntKind.wrap .i64 q321)) h (Zw [] ⟨rfl,rfl,rfl,rfl,rfl,rfl,rfl,rfl,rfl,trivial⟩ ⟨⟨rfl,rfl⟩,trivial⟩ rfl)
refine rg ?_
refine rg ?_
exact jn (p1,p2) h (Zw [] ⟨rfl,rfl,rfl,rfl,rfl,rfl,rfl,rfl,rfl,trivial⟩ ⟨⟨rfl,rfl⟩,trivial⟩ rfl)
obtain ⟨x322,x323⟩:=a
subst hk17
dsimp only at h ⊢
refine Zn ?_
refine rg ?_
refine bl ?_
refine ZB h fun f19 mf19 hf19 h=>?_
refine Zv (α:=Nat×(Int×Int)) (fun a _=>mkS [(0,.row 0 (0,0)),(1,.int .i64 p1),(2,.int .i64 p2),(3,.int .i64 p3),(4,.fn 51 []),(18,.int .i64 (IntKind.wrap .i64 q321)),(19,.int .i64 (w64 ((IntKind.wrap .i64 q321)+p2))),(20,.int .i64 a.2.1),(21,.int .i64 a.2.2),(22,.int .i64 (w64 ((w64 ((IntKind.wrap .i64 q321)+p2))-1)))] [(0,some ((0,0),.row 56 3 false (List.map Memb.cs p0)))] 2) (fun a=>ZaF a.1 f19 a.2=some r) (fun a=>a.1) (mf19,x322,x323) 2 h (Zw [] ⟨rfl,rfl,rfl,rfl,rfl,rfl,rfl,rfl,rfl,rfl,trivial⟩ ⟨⟨rfl,rfl⟩,trivial⟩ rfl) (fun a _ h=>?_)
obtain ⟨mf19,x342,x343⟩:=a
obtain ⟨mf19,rfl,h⟩:=ZC hf19 h
dsimp only at h ⊢
refine Zn ?_
refine rg ?_
refine cS h rfl (fun h=>?_) fun h=>?_
refine bl ?_
refine rg ?_
obtain ⟨q348,h310,h⟩:=bnd h
refine ZoG rfl h310 rfl rfl (Zn ?_)
refine rg ?_
obtain ⟨e349,h311,h⟩:=bnd h
refine Zaa rfl h311 rfl rfl rfl (Zn ?_)
refine ZaJ rfl h311 rfl rfl rfl (Zn ?_)
obtain ⟨e350,h312,h⟩:=bnd h
refine Zaa rfl h312 rfl rfl rfl (Zn ?_)
refine ZaJ rfl h312 rfl rfl rfl (Zn ?_)
obtain ⟨r351,h313,h⟩:=bnd h
refine Zfs (Lc:=[]) (args1:=[e349.pv,e350.pv]) (ZdU _ _ _ h313) rfl rfl rfl rfl (Zn ?_)
refine cS h rfl (fun h=>?_) fun h=>?_
refine rg ?_
exact rn (mf19,(w64 ((IntKind.wrap .i64 q348)+1)),x343) h (Zw [] ⟨rfl,rfl,rfl,rfl,rfl,rfl,rfl,rfl,rfl,rfl,trivial⟩ ⟨⟨rfl,rfl⟩,trivial⟩ rfl)
refine rg ?_
exact rn (mf19,x342,(IntKind.wrap .i64 q348)) h (Zw [] ⟨rfl,rfl,rfl,rfl,rfl,rfl,rfl,rfl,rfl,rfl,trivial⟩ ⟨⟨rfl,rfl⟩,trivial⟩ rfl)
refine rg ?_
refine jL h (fun x352=>mkS [(0,.row 0 (0,0)),(1,.int .i64 p1),(2,.int .i64 p2),(3,.int .i64 p3),(4,.fn 51 []),(18,.int .i64 (IntKind.wrap .i64 q321)),(20,.int .i64 x342),(24,.int .i64 (w64 ((w64 ((IntKind.wrap .i64 q321)+p2))-x342))),(185,.bool x352)] [(0,some ((0,0),.row 56 3 false (List.map Memb.cs p0)))] 2) (fun k20 h=>?_) fun x352 h=>?_
refine rg ?_
refine kS 181 h rfl (fun h=>?_) fun h=>?_
exact jn (decide (p2<(w64 ((w64 ((IntKind.wrap .i64 q321)+p2))-x342)))) h (Zw [] ⟨rfl,rfl,rfl,rfl,rfl,rfl,rfl,rfl,rfl,trivial⟩ ⟨⟨rfl,rfl⟩,trivial⟩ rfl)
iterate 3 refine ZE rfl (Zn ?_)
exact jn false h (Zw [] ⟨rfl,rfl,rfl,rfl,rfl,rfl,rfl,rfl,rfl,trivial⟩ ⟨⟨rfl,rfl⟩,trivial⟩ rfl)
refine jL h (fun x354=>mkS [(0,.row 0 (0,0)),(1,.int .i64 p1),(3,.int .i64 p3),(4,.fn 51 []),(18,.int .i64 (IntKind.wrap .i64 q321)),(20,.int .i64 x342),(24,.int .i64 (w64 ((w64 ((IntKind.wrap .i64 q321)+p2))-x342)))] [(0,some ((0,0),.row 56 3 false (List.map Memb.cs x354)))] 2) (fun k21 h=>?_) fun x354 h=>?_
refine cS h rfl (fun h=>?_) fun h=>?_
refine rg ?_
obtain ⟨r361,h318,h⟩:=bnd h
refine Zdj (ZcX _ _ _ _ _ h318) rfl rfl rfl rfl rfl (Zn ?_)
exact jn r361 h (Zw [] ⟨rfl,rfl,rfl,rfl,rfl,rfl,rfl,trivial⟩ ⟨⟨rfl,rfl⟩,trivial⟩ rfl)
exact jn p0 h (Zw [] ⟨rfl,rfl,rfl,rfl,rfl,rfl,rfl,trivial⟩ ⟨⟨rfl,rfl⟩,trivial⟩ rfl)
refine jL h (fun x355=>mkS [(0,.row 0 (0,0)),(1,.int .i64 p1),(3,.int .i64 p3),(4,.fn 51 []),(18,.int .i64 (IntKind.wrap .i64 q321)),(20,.int .i64 x342),(24,.int .i64 (w64 ((w64 ((IntKind.wrap .i64 q321)+p2))-x342))),(199,.bool x355)] [(0,some ((0,0),.row 56 3 false (List.map Memb.cs x354)))] 2) (fun k22 h=>?_) fun x355 h=>?_
refine rg ?_
refine kS 195 h rfl (fun h=>?_) fun h=>?_
exact jn (decide (x342<(IntKind.wrap .i64 q321))) h (Zw [] ⟨rfl,rfl,rfl,rfl,rfl,rfl,rfl,rfl,trivial⟩ ⟨⟨rfl,rfl⟩,trivial⟩ rfl)
iterate 3 refine ZE rfl (Zn ?_)
exact jn false h (Zw [] ⟨rfl,rfl,rfl,rfl,rfl,rfl,rfl,rfl,trivial⟩ ⟨⟨rfl,rfl⟩,trivial⟩ rfl)
refine jL h (fun x357=>mkS [(0,.row 0 (0,0)),(3,.int .i64 p3),(4,.fn 51 []),(18,.int .i64 (IntKind.wrap .i64 q321)),(24,.int .i64 (w64 ((w64 ((IntKind.wrap .i64 q321)+p2))-x342)))] [(0,some ((0,0),.row 56 3 false (List.map Memb.cs x357)))] 2) (fun k23 h=>?_) fun x357 h=>?_
refine cS h rfl (fun h=>?_) fun h=>?_
refine rg ?_
obtain ⟨r360,h317,h⟩:=bnd h
refine Zdj (ihF _ _ _ _ _ h317) rfl rfl rfl rfl rfl (Zn ?_)
exact jn r360 h (Zw [] ⟨rfl,rfl,rfl,rfl,rfl,trivial⟩ ⟨⟨rfl,rfl⟩,trivial⟩ rfl)
exact jn x354 h (Zw [] ⟨rfl,rfl,rfl,rfl,rfl,trivial⟩ ⟨⟨rfl,rfl⟩,trivial⟩ rfl)
refine jL h (fun x358=>mkS [(0,.row 0 (0,0)),(3,.int .i64 p3),(4,.fn 51 []),(18,.int .i64 (IntKind.wrap .i64 q321)),(24,.int .i64 (w64 ((w64 ((IntKind.wrap .i64 q321)+p2))-x342))),(213,.bool x358)] [(0,some ((0,0),.row 56 3 false (List.map Memb.cs x357)))] 2) (fun k24 h=>?_) fun x358 h=>?_
refine rg ?_
refine kS 209 h rfl (fun h=>?_) fun h=>?_
exact jn (decide ((w64 ((w64 ((IntKind.wrap .i64 q321)+p2))-x342))<p3)) h (Zw [] ⟨rfl,rfl,rfl,rfl,rfl,rfl,trivial⟩ ⟨⟨rfl,rfl⟩,trivial⟩ rfl)
iterate 3 refine ZE rfl (Zn ?_)
exact jn false h (Zw [] ⟨rfl,rfl,rfl,rfl,rfl,rfl,trivial⟩ ⟨⟨rfl,rfl⟩,trivial⟩ rfl)
refine cS h rfl (fun h=>?_) fun h=>?_
refine rg ?_
obtain ⟨r359,h316,h⟩:=bnd h
refine Zdj (ihF _ _ _ _ _ h316) rfl rfl rfl rfl rfl (Zn ?_)
cases h
exact Zew rfl rfl rfl
cases h
exact Zew rfl rfl rfl}
def Zag (p0:List Memb) (p1:Int):Option (List Memb):=ZaF Zcp (fun f2 ((x8,x9,x10):Int×Int×(List Memb))=>if (decide (x9<=p1)) then (ZK x10 x8 x9).bind fun r12=>f2 (x9,(w64 (x9+20)),r12) else (ZK x10 x8 p1).bind fun r13=>ZaF Zcp (fun f9 ((x29,x30):Int×(List Memb))=>if (decide (x29<p1)) then ZaF Zcp (fun f11 ((x53,x54,x55):Int×Int×(List Memb))=>if (decide (x54<=p1)) then (Zp 64 x55 x53 (w64 (x53+x29)) x54).bind fun r57=>f11 (x54,(w64 (x54+(w64 (2 * x29)))),r57) else letk (fun (x59:List Memb)=>f9 ((w64 (x29 * 2)),x59)) fun k12=>if (decide ((w64 (x53+x29))<p1)) then (Zp 64 x55 x53 (w64 (x53+x29)) p1).bind fun r60=>k12 r60 else k12 x55) (0,(w64 (2 * x29)),x30) else some x30) (20,r13)) (0,20,p0)
theorem ZcY (p0:List Memb) (p1:Int) (r:List Memb) (h:Zag p0 p1=some r):ContractR Tryz.prog 100 [.int .i64 p1,.fn 51 []] 56 3 (List.map Memb.cs p0) (.tup []) (List.map Memb.cs r):=by{
refine Zdm (R:=fun r=>.tup []) (O:=fun r=>(List.map Memb.cs r)) h mix Tryz.func100 (by kernel_rfl) rfl (by kernel_rfl) fun r h=>?_
unfold Zag at h
refine Zn ?_
refine rg ?_
refine rg ?_
refine bl ?_
refine ZB h fun f2 mf2 hf2 h=>?_
refine Zv (α:=Nat×(Int×Int×(List Memb))) (fun a _=>mkS [(0,.row 0 (0,0)),(1,.int .i64 p1),(2,.fn 51 []),(6,.int .i64 20),(7,.int .i64 a.2.1),(8,.int .i64 a.2.2.1)] [(0,some ((0,0),.row 56 3 false (List.map Memb.cs a.2.2.2)))] 2) (fun a=>ZaF a.1 f2 a.2=some r) (fun a=>a.1) (mf2,0,20,p0) 2 h (Zw [] ⟨rfl,rfl,rfl,rfl,rfl,rfl,trivial⟩ ⟨⟨rfl,rfl⟩,trivial⟩ rfl) (fun a _ h=>?_)
obtain ⟨mf2,x8,x9,x10⟩:=a
obtain ⟨mf2,rfl,h⟩:=ZC hf2 h
dsimp only at h ⊢
refine Zn ?_
refine rg ?_
refine cS h rfl (fun h=>?_) fun h=>?_
refine bl ?_
refine rg ?_
obtain ⟨r12,h6,h⟩:=bnd h
refine Zdj (ZaZ _ _ _ _ h6) rfl rfl rfl rfl rfl (Zn ?_)
refine rg ?_
refine rg ?_
exact rn (mf2,x9,(w64 (x9+20)),r12) h (Zw [] ⟨rfl,rfl,rfl,rfl,rfl,rfl,trivial⟩ ⟨⟨rfl,rfl⟩,trivial⟩ rfl)
refine rg ?_
obtain ⟨r13,h7,h⟩:=bnd h
refine Zdj (ZaZ _ _ _ _ h7) rfl rfl rfl rfl rfl (Zn ?_)
refine bl ?_
refine ZB h fun f9 mf9 hf9 h=>?_
refine Zv (α:=Nat×(Int×(List Memb))) (fun a _=>mkS [(0,.row 0 (0,0)),(1,.int .i64 p1),(2,.fn 51 []),(6,.int .i64 a.2.1)] [(0,some ((0,0),.row 56 3 false (List.map Memb.cs a.2.2)))] 2) (fun a=>ZaF a.1 f9 a.2=some r) (fun a=>a.1) (mf9,20,r13) 2 h (Zw [] ⟨rfl,rfl,rfl,rfl,trivial⟩ ⟨⟨rfl,rfl⟩,trivial⟩ rfl) (fun a _ h=>?_)
obtain ⟨mf9,x29,x30⟩:=a
obtain ⟨mf9,rfl,h⟩:=ZC hf9 h
dsimp only at h ⊢
refine Zn ?_
refine rg ?_
refine cS h rfl (fun h=>?_) fun h=>?_
refine bl ?_
refine rg ?_
refine bl ?_
refine ZB h fun f11 mf11 hf11 h=>?_
refine Zv (α:=Nat×(Int×Int×(List Memb))) (fun a _=>mkS [(0,.row 0 (0,0)),(1,.int .i64 p1),(2,.fn 51 []),(6,.int .i64 x29),(7,.int .i64 a.2.1),(8,.int .i64 a.2.2.1)] [(0,some ((0,0),.row 56 3 false (List.map Memb.cs a.2.2.2)))] 2) (fun a=>ZaF a.1 f11 a.2=some r) (fun a=>a.1) (mf11,0,(w64 (2 * x29)),x30) 2 h (Zw [] ⟨rfl,rfl,rfl,rfl,rfl,rfl,trivial⟩ ⟨⟨rfl,rfl⟩,trivial⟩ rfl) (fun a _ h=>?_)
obtain ⟨mf11,x53,x54,x55⟩:=a
obtain ⟨mf11,rfl,h⟩:=ZC hf11 h
dsimp only at h ⊢
refine Zn ?_
refine rg ?_
refine cS h rfl (fun h=>?_) fun h=>?_
refine bl ?_
refine rg ?_
obtain ⟨r57,h29,h⟩:=bnd h
refine Zdj (Zbr 64 _ _ _ _ _ h29) rfl rfl rfl rfl rfl (Zn ?_)
refine rg ?_
refine rg ?_
exact rn (mf11,x54,(w64 (x54+(w64 (2 * x29)))),r57) h (Zw [] ⟨rfl,rfl,rfl,rfl,rfl,rfl,trivial⟩ ⟨⟨rfl,rfl⟩,trivial⟩ rfl)
refine rg ?_
refine rg ?_
refine jL h (fun x59=>mkS [(0,.row 0 (0,0)),(1,.int .i64 p1),(2,.fn 51 []),(6,.int .i64 x29)] [(0,some ((0,0),.row 56 3 false (List.map Memb.cs x59)))] 2) (fun k12 h=>?_) fun x59 h=>?_
refine cS h rfl (fun h=>?_) fun h=>?_
refine rg ?_
obtain ⟨r60,h31,h⟩:=bnd h
refine Zdj (Zbr 64 _ _ _ _ _ h31) rfl rfl rfl rfl rfl (Zn ?_)
exact jn r60 h (Zw [] ⟨rfl,rfl,rfl,rfl,trivial⟩ ⟨⟨rfl,rfl⟩,trivial⟩ rfl)
exact jn x55 h (Zw [] ⟨rfl,rfl,rfl,rfl,trivial⟩ ⟨⟨rfl,rfl⟩,trivial⟩ rfl)
refine rg ?_
exact rn (mf9,(w64 (x29 * 2)),x59) h (Zw [] ⟨rfl,rfl,rfl,rfl,trivial⟩ ⟨⟨rfl,rfl⟩,trivial⟩ rfl)
cases h
exact Zew rfl rfl rfl}
def ZU (p0:List Memb):Option (List Memb):=(Zag p0 (p0.length:Int)).bind fun r1=>some r1
theorem ZcG (p0:List Memb) (r:List Memb) (h:ZU p0=some r):ContractR Tryz.prog 50 [.fn 51 []] 56 3 (List.map Memb.cs p0) (.tup []) (List.map Memb.cs r):=by{
refine Zdm (R:=fun r=>.tup []) (O:=fun r=>(List.map Memb.cs r)) h mix Tryz.func50 (by kernel_rfl) rfl (by kernel_rfl) fun r h=>?_
unfold ZU at h
refine Zn ?_
refine rg ?_
refine lM Memb.cs p0 ?_
obtain ⟨r1,h1,h⟩:=bnd h
refine Zdj (ZcY _ _ _ h1) rfl rfl rfl rfl rfl (Zn ?_)
cases h
exact Zew rfl rfl rfl}
def Zaf (p0:List Memb):Option (List Memb):=if (decide ((p0.length:Int)<2)) then some p0 else ZaF Zcp (fun f82 (x674:Int)=>if (decide (x674<(p0.length:Int))) then (atI p0 x674).bind fun e927=>(atI p0 (w64 (x674-1))).bind fun e928=>(Zeg e927 e928).bind fun r929=>if r929 then (ZpR p0 x674).bind fun _=>ZaF Zcp (fun f97 ((x982,x983,x984):Int×Int×(List Memb))=>if (decide (x983<(Zvz x984 x674))) then letk (fun (x1002:Int) (x1003:List Memb)=>f97 (x1002,(w64 (x983+1)),x1003)) fun k98=>(atQ x984 x674 x983).bind fun e1004=>(atQ x984 x674 (w64 (x983-1))).bind fun e1005=>(Zeg e1004 e1005).bind fun r1006=>if (!r1006) then (atQ x984 x674 x983).bind fun e1007=>(atI x984 x982).bind fun e1008=>k98 (w64 (x982+1)) (Zfo x984 x982 e1007) else k98 x982 x984 else (ZpR x984 x982).bind fun _=>(Zkf (ZuS x984 x982 (⟨(⟨0,(⟨#[]⟩:ByteArray)⟩:Title),(⟨#[]⟩:ByteArray)⟩:Memb)) 0 x982).bind fun l1010=>some l1010) (x674,1,p0) else f82 (w64 (x674+1)) else some p0) 1
theorem Zdn (p0:List Memb) (r:List Memb) (h:Zaf p0=some r):ContractS Tryz.prog 52 [.fn 53 []] 56 3 (List.map Memb.cs p0) (List.map Memb.cs r):=by{
refine Zjz (O:=fun r=>(List.map Memb.cs r)) h mix Tryz.func52 (by kernel_rfl) rfl (by kernel_rfl) fun r h=>?_
unfold Zaf at h
refine Zn ?_
refine rg ?_
refine rg ?_
refine lM Memb.cs p0 ?_
refine cS h rfl (fun h=>?_) fun h=>?_
refine rg ?_
cases h
exact ZkK rfl rfl
refine rg ?_
refine bl ?_
refine ZB h fun f82 mf82 hf82 h=>?_
refine Zv (α:=Nat×Int) (fun a _=>mkS [(0,.row 0 (0,0)),(1,.fn 53 []),(5,.int .i64 a.2)] [(0,some ((0,0),.row 56 3 false (List.map Memb.cs p0)))] 2) (fun a=>ZaF a.1 f82 a.2=some r) (fun a=>a.1) (mf82,1) 2 h (Zw [] ⟨rfl,rfl,rfl,trivial⟩ ⟨⟨rfl,rfl⟩,trivial⟩ rfl) (fun a _ h=>?_)
obtain ⟨mf82,x674⟩:=a
obtain ⟨mf82,rfl,h⟩:=ZC hf82 h
dsimp only at h ⊢
refine Zn ?_
refine rg ?_
refine lM Memb.cs p0 ?_
refine cS h rfl (fun h=>?_) fun h=>?_
refine bl ?_
refine rg ?_
obtain ⟨e927,h727,h⟩:=bnd h
refine Zaa rfl h727 rfl rfl rfl (Zn ?_)
refine ZaJ rfl h727 rfl rfl rfl (Zn ?_)
obtain ⟨e928,h728,h⟩:=bnd h
refine Zaa rfl h728 rfl rfl rfl (Zn ?_)
refine ZaJ rfl h728 rfl rfl rfl (Zn ?_)
obtain ⟨r929,h729,h⟩:=bnd h
refine Zfs (Lc:=[]) (args1:=[e927.pv,e928.pv]) (Zhh _ _ _ h729) rfl rfl rfl rfl (Zn ?_)
refine cS h rfl (fun h=>?_) fun h=>?_
refine rg ?_
obtain ⟨_,h730,h⟩:=bnd h
refine Zor rfl h730 rfl rfl rfl (Zn ?_)
refine rg ?_
refine bl ?_
refine ZB h fun f97 mf97 hf97 h=>?_
refine Zv (α:=Nat×(Int×Int×(List Memb))) (fun a _=>mkS [(0,.row 0 (0,0)),(1,.fn 53 []),(5,.int .i64 a.2.1),(6,.suf 0 (0,0) (x674).toNat 3),(7,.int .i64 a.2.2.1)] [(0,some ((0,0),.row 56 3 false (List.map Memb.cs a.2.2.2)))] 2) (fun a=>ZaF a.1 f97 a.2=some r) (fun a=>a.1) (mf97,x674,1,p0) 2 h (Zw [] ⟨rfl,rfl,rfl,rfl,rfl,trivial⟩ ⟨⟨rfl,rfl⟩,trivial⟩ rfl) (fun a _ h=>?_)
obtain ⟨mf97,x982,x983,x984⟩:=a
obtain ⟨mf97,rfl,h⟩:=ZC hf97 h
dsimp only at h ⊢
refine Zn ?_
refine rg ?_
refine ZtV (M:=x984) (f:=Memb.cs) rfl rfl rfl (Zn ?_)
refine cS h rfl (fun h=>?_) fun h=>?_
refine ZbG h fun k98 hk98 h=>?_
refine Zbv (α:=Int×(List Memb)) (fun a _=>mkS [(0,.row 0 (0,0)),(1,.fn 53 []),(5,.int .i64 a.1),(6,.suf 0 (0,0) (x674).toNat 3),(7,.int .i64 x983)] [(0,some ((0,0),.row 56 3 false (List.map Memb.cs a.2)))] 2) (fun a=>k98 a.1 a.2=some r) (Zn ?_) (fun a _ h=>?_)
refine bl ?_
refine rg ?_
obtain ⟨e1004,h786,h⟩:=bnd h
refine Ze3 rfl h786 rfl rfl rfl (Zn ?_)
refine ZaJ rfl (ZgO h786) rfl rfl rfl (Zn ?_)
obtain ⟨e1005,h787,h⟩:=bnd h
refine Ze3 rfl h787 rfl rfl rfl (Zn ?_)
refine ZaJ rfl (ZgO h787) rfl rfl rfl (Zn ?_)
obtain ⟨r1006,h788,h⟩:=bnd h
refine Zfs (Lc:=[]) (args1:=[e1004.pv,e1005.pv]) (Zhh _ _ _ h788) rfl rfl rfl rfl (Zn ?_)
refine cS h rfl (fun h=>?_) fun h=>?_
refine rg ?_
obtain ⟨e1007,h789,h⟩:=bnd h
refine Ze3 rfl h789 rfl rfl rfl (Zn ?_)
refine ZaJ rfl (ZgO h789) rfl rfl rfl (Zn ?_)
obtain ⟨e1008,h790,h⟩:=bnd h
refine Zaa rfl h790 rfl rfl rfl (Zn ?_)
refine Zcx (e':=e1007) rfl h790 rfl rfl rfl rfl rfl rfl (Nat.le_of_ble_eq_true rfl) rfl rfl (Zn ?_)
refine rg ?_
exact jn ((w64 (x982+1)),(Zfo x984 x982 e1007)) h (Zw [] ⟨rfl,rfl,rfl,rfl,rfl,trivial⟩ ⟨⟨rfl,rfl⟩,trivial⟩ rfl)
exact jn (x982,x984) h (Zw [] ⟨rfl,rfl,rfl,rfl,rfl,trivial⟩ ⟨⟨rfl,rfl⟩,trivial⟩ rfl)
obtain ⟨x1002,x1003⟩:=a
subst hk98
dsimp only at h ⊢
refine Zn ?_
refine rg ?_
exact rn (mf97,x1002,(w64 (x983+1)),x1003) h (Zw [] ⟨rfl,rfl,rfl,rfl,rfl,trivial⟩ ⟨⟨rfl,rfl⟩,trivial⟩ rfl)
refine rg ?_
obtain ⟨_,h791,h⟩:=bnd h
refine Zor rfl h791 rfl rfl rfl (Zn ?_)
refine Zos (M:=x984) (f:=Memb.cs) (zr:=(⟨(⟨0,(⟨#[]⟩:ByteArray)⟩:Title),(⟨#[]⟩:ByteArray)⟩:Memb)) rfl rfl rfl rfl rfl (Zn ?_)
refine rg ?_
obtain ⟨l1010,h792,h⟩:=bnd h
refine Zot rfl h792 rfl rfl rfl (Zn ?_)
cases h
exact ZkK rfl rfl
refine rg ?_
exact rn (mf82,(w64 (x674+1))) h (Zw [] ⟨rfl,rfl,rfl,trivial⟩ ⟨⟨rfl,rfl⟩,trivial⟩ rfl)
refine rg ?_
cases h
exact ZkK rfl rfl}
def Zdu (p0:ByteArray):Option ((List Link)×(List Memb)×Int):=(Zeq p0).bind fun r1=>if (!decide (r1.2=0)) then (some ([],[],r1.2):Option ((List Link)×(List Memb)×Int)) else (ZaP 300001 (⟨([]:List Link),([]:List Memb)⟩:Finder) r1.1).bind fun r2=>(Zu 300001 r2 r1.1).bind fun r3=>(Zcw p0).bind fun r4=>letk (fun (x6:List Link)=>(Zbe x6).bind fun r7=>(ZU r3.members).bind fun r8=>(Zaf r8).bind fun r9=>(ZaX r7).bind fun r10=>(some (r10,r9,0):Option ((List Link)×(List Memb)×Int))) fun k1=>if r4.2 then (ZeI 32 r3.links [(⟨4,r4.1⟩:Link)]).bind fun l11=>k1 l11 else k1 r3.links
theorem Zja (p0:ByteArray) (r:(List Link)×(List Memb)×Int) (h:Zdu p0=some r):Zg Tryz.prog 16 [.str p0] (.tup [.sl (List.map Link.cs r.1),.sl (List.map Memb.cs r.2.1),.int .i64 r.2.2]):=by{
refine cF (fun r=>.tup [.sl (List.map Link.cs r.1),.sl (List.map Memb.cs r.2.1),.int .i64 r.2.2]) h mix Tryz.func16 fun r h=>?_
unfold Zdu at h
refine Zn ?_
refine rg ?_
refine rg ?_
refine aC h (Zly _) fun r1 h=>?_
refine rg ?_
refine cS h rfl (fun h=>?_) fun h=>?_
refine rg ?_
cases h
exact rQ
refine rg ?_
refine ZY (Za0 20 3000 0 102 3 rfl rfl rfl) (Zn ?_) (List.cons_ne_nil _ _)
refine ZY (Za0 20 3001 1 56 3 rfl rfl rfl) (Zn ?_) (List.cons_ne_nil _ _)
refine rg ?_
obtain ⟨r2,h2,h⟩:=bnd h
refine ZgT (Zhg 300001 _ _ _ h2) rfl rfl rfl rfl rfl rfl rfl rfl (Zn ?_)
refine rg ?_
obtain ⟨r3,h3,h⟩:=bnd h
refine ZgT (Ze0 300001 _ _ _ h3) rfl rfl rfl rfl rfl rfl rfl rfl (Zn ?_)
refine rg ?_
refine aC h (ZiO _) fun r4 h=>?_
refine rg ?_
refine jL h (fun x6=>mkS [(7,.ptr 20 (1,20) 0)] [(20,some ((1,20),.box [.row 3000 (1,3000),.row 3001 (1,3001)])),(3000,some ((1,3000),.row 102 3 false (List.map Link.cs x6))),(3001,some ((1,3001),.row 56 3 false (List.map Memb.cs r3.members)))] 2) (fun k1 h=>?_) fun x6 h=>?_
refine cS h rfl (fun h=>?_) fun h=>?_
refine rg ?_
refine ZbS (M:=([(⟨4,r4.1⟩:Link)]:List Link)) (f:=Link.cs) rfl rfl rfl rfl (Nat.le_of_ble_eq_true rfl) rfl (Zn ?_)
refine pR Link.cs h fun l11 h=>?_
exact jn l11 h (sR [(20,4,1),(3000,11,8),(3001,8,2000002)])
exact jn r3.links h (sR [(20,4,1),(3000,8,1000002),(3001,8,2000002)])
refine rg ?_
obtain ⟨r7,h6,h⟩:=bnd h
refine Zdj (ZfL _ _ h6) rfl rfl rfl rfl rfl (Zn ?_)
refine rg ?_
obtain ⟨r8,h7,h⟩:=bnd h
refine Zdj (ZcG _ _ h7) rfl rfl rfl rfl rfl (Zn ?_)
refine rg ?_
obtain ⟨r9,h8,h⟩:=bnd h
refine Zqp (Zdn _ _ h8) rfl rfl rfl rfl (Zn ?_)
refine rg ?_
obtain ⟨r10,h9,h⟩:=bnd h
refine Zqp (ZfR _ _ h9) rfl rfl rfl rfl (Zn ?_)
cases h
exact rQ}
def ZcH (p0:List Memb) (p1:List Memb):Option Bool:=if (!decide ((p0.length:Int)=(p1.length:Int))) then some false else ZaF Zcp (fun f2 (x18:Int)=>if (decide (x18<(p0.length:Int))) then (atI p0 x18).bind fun e25=>(atI p1 x18).bind fun e26=>if (!decide (e25=e26)) then some false else f2 (w64 (x18+1)) else some true) 0
theorem ZhL (p0:List Memb) (p1:List Memb) (r:Bool) (h:ZcH p0 p1=some r):Zg Tryz.prog 20 [.sl (List.map Memb.cs p0),.sl (List.map Memb.cs p1)] (.bool r):=by{
refine cF (fun r=>.bool r) h mix Tryz.func20 fun r h=>?_
unfold ZcH at h
refine Zn ?_
refine rg ?_
refine rg ?_
refine lM Memb.cs p0 ?_
refine lM Memb.cs p1 ?_
refine cS h rfl (fun h=>?_) fun h=>?_
refine rg ?_
cases h
exact rQ
refine rg ?_
refine bl ?_
refine ZB h fun f2 mf2 hf2 h=>?_
refine Zv (α:=Nat×Int) (fun a _=>mkS [(0,.sl (List.map Memb.cs p0)),(1,.sl (List.map Memb.cs p1)),(5,.int .i64 a.2)] [] 2) (fun a=>ZaF a.1 f2 a.2=some r) (fun a=>a.1) (mf2,0) 2 h (sR []) (fun a _ h=>?_)
obtain ⟨mf2,x18⟩:=a
obtain ⟨mf2,rfl,h⟩:=ZC hf2 h
dsimp only at h ⊢
refine Zn ?_
refine rg ?_
refine lM Memb.cs p0 ?_
refine cS h rfl (fun h=>?_) fun h=>?_
refine bl ?_
refine rg ?_
refine aI Memb.cs h fun e25 h=>?_
refine aI Memb.cs h fun e26 h=>?_
refine ZiN (.inr rfl) rfl rfl rfl rfl rfl (fun W=>Zvd e25 e26 W) (Zn ?_)
refine cS h rfl (fun h=>?_) fun h=>?_
refine rg ?_
cases h
exact rQ
refine rg ?_
exact rn (mf2,(w64 (x18+1))) h (sR [])
refine rg ?_
cases h
exact rQ}
end Go.Proofs.YtpffimahajgiaaaGreatDoor
