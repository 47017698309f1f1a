/- slices.SortFunc at links, of whatever length. | Functions of the program as Lean functions. Written by fxgen.py. -/
import Derived.Test.YtmgfammllddkhaaGreatDoorCT11
import Derived.Test.YtmgfammllddkhaaGreatDoorCT07
namespace Go.Proofs.YtmgfammllddkhaaGreatDoor
open VL Go.RowKit
open Go.Sort
theorem ZmB (a b:Int):orI [a,b]=ZqG a b:=by
 unfold orI ZqG
 split
 ·unfold orI
  split
  ·rename_i h;rw [h];rfl
  ·rfl
 ·rfl
theorem titleCmp_laws:CmpLaws Title.cmp:=by
 have h:=cmpInt_laws.lex Zmd (f:=Title.space) (g:=Title.name) (fun x y h1 h2=>by cases x;cases y;simp_all)
 have e:Title.cmp=fun x y=>ZqG (Lib.compareInt x.space y.space) (Lib.compareBytes x.name.data.toList y.name.data.toList):=by
  funext x y
  exact ZmB _ _
 rw [e]
 exact h
theorem linkCmp_laws:CmpLaws Zd6:=by
 have h:=cmpInt_laws.lex titleCmp_laws (f:=Link.kind) (g:=Link.title) (fun x y h1 h2=>by cases x;cases y;simp_all)
 have e:Zd6=fun x y=>ZqG (Lib.compareInt x.kind y.kind) (Title.cmp x.title y.title):=by
  funext x y
  exact ZmB _ _
 rw [e]
 exact h
instance:Inhabited Link:=⟨⟨0,⟨0,⟨#[]⟩⟩⟩⟩
def ZaF (p0:List Link):Option (List Link):=if p0.length<4611686018427387904 then some (Zae (leC Zd6) p0) else none
theorem Ze0 (p0:List Link) (r:List Link) (h:ZaF p0=some r):ContractR Tryz.prog 32 [.fn 33 []] 42 3 (List.map Link.cs p0) (.tup []) (List.map Link.cs r):=by
 unfold ZaF at h
 split at h
 ·rename_i hl
  injection h with h
  subst h
  have hk:∀ x,(Zf4 x).length=3:=fun _=>rfl
  have eg:∀ args w,(callFunc 33 args).run Tryz.prog w = .ok (.enter 33 args) w:=enters_of Tryz.func33 (by kernel_rfl) rfl
  refine ZnC (enc:=Zf4) (cf:=Zd6) (by kernel_rfl) (fun _=>rfl) hk (fun _=>rfl) (fun x p hp=>?_) linkCmp_laws.swo linkCmp_laws.tot (fun cap W A=>AnyF.slices_SortFunc_none { Tryz.sortLink with } A cap _ W) (fun blk off cap d w hH hb hs=>?_) p0 hl
  ·simp [Link.cs] at hp
   rcases hp with rfl | rfl | rfl<;>rfl
  ·exact AnyQ.slices_SortFunc_total Tryz.sortLink 3 Tryz.isAgg42 Tryz.sizeOf42 Zf4 hk (fun x v hv=>by simp [Zf4] at hv;rcases hv with rfl | rfl | rfl<;>rfl) Zd6 linkCmp_laws.swo 33 #[] blk off cap d w eg (fun m os dk _ x y=>(Zjc x y _).mono fun e w' h=>⟨h.1,h.2⟩) hH hb hs linkCmp_laws.tot
 ·cases h
end Go.Proofs.YtmgfammllddkhaaGreatDoor
set_option linter.unusedVariables false
set_option maxHeartbeats 4000000
set_option maxRecDepth 100000
namespace Go.Proofs.YtmgfammllddkhaaGreatDoor
open VL
def ZaJ (p0:List Link):Option (List Link):=
 if (decide ((p0.length:Int)<2)) then
  (some p0:Option (List Link))
 else
 Zbw Zec (fun f82 (x570:Int)=>
  if (decide (x570<(p0.length:Int))) then
   (atI p0 x570).bind fun e784=>
   (atI p0 (w64 (x570 - 1))).bind fun e785=>
   if (decide (e784=e785)) then
    (Zn9 p0 x570).bind fun _=>
    Zbw Zec (fun f97 ((x830,x831,x832):Int×Int×(List Link))=>
     if (decide (x831<(Zs0 x832 x570))) then
      letk (fun (x847:Int) (x848:List Link)=>
       f97 (x847,(w64 (x831+1)),x848)) fun k98=>
      (atQ x832 x570 x831).bind fun e849=>
      (atQ x832 x570 (w64 (x831 - 1))).bind fun e850=>
      if (!decide (e849=e850)) then
       (atQ x832 x570 x831).bind fun e851=>
       (atI x832 x830).bind fun e852=>
       k98 (w64 (x830+1)) (ZeE x832 x830 e851)
      else
      k98 x830 x832
     else
     (Zn9 x832 x830).bind fun _=>
     (Zr3 (Zsd x832 x830 (⟨0,(⟨0,(⟨#[]⟩:ByteArray)⟩:Title)⟩:Link)) 0 x830).bind fun l854=>
     (some l854:Option (List Link))) (x570,1,p0)
   else
   f82 (w64 (x570+1))
  else
  (some p0:Option (List Link))) 1
theorem Zfe (p0:List Link) (r:List Link) (h:ZaJ p0=some r):ContractS Tryz.prog 41 [] 42 3 (List.map Link.cs p0) (List.map Link.cs r):=by
 refine Zin (O:=fun r=>(List.map Link.cs r)) h mix Tryz.func41 (by kernel_rfl) rfl (by kernel_rfl) fun r h=>?_
 unfold ZaJ at h
 refine Zu ?_
 refine rg ?_
 refine rg ?_
 refine lM Link.cs p0 ?_
 refine cS h rfl (fun h=>?_) fun h=>?_
 ·refine rg ?_
  cases h
  exact ZjN rfl rfl
 refine rg ?_
 refine bl ?_
 refine Zab h fun f82 mf82 hf82 h=>?_
 refine ZF (α:=Nat×Int) (fun a _=>mkS [(0,.row 0 (0,0)),(3,.int .i64 a.2)] [(0,some ((0,0),.row 42 3 false (List.map Link.cs p0)))] 2) (fun a=>Zbw a.1 f82 a.2=some r) (fun a=>a.1) (mf82,1) 2 h (sR []) (fun a _ h=>?_)
 obtain ⟨mf82,x570⟩:=a
 obtain ⟨mf82,rfl,h⟩:=Zac hf82 h
 dsimp only at h ⊢
 refine Zu ?_
 refine rg ?_
 refine lM Link.cs p0 ?_
 refine cS h rfl (fun h=>?_) fun h=>?_
 ·refine bl ?_
  refine rg ?_
  obtain ⟨e784,h584,h⟩:=bnd h
  refine ZM rfl h584 rfl rfl rfl (Zu ?_)
  refine ZaB rfl h584 rfl rfl rfl (Zu ?_)
  obtain ⟨e785,h585,h⟩:=bnd h
  refine ZM rfl h585 rfl rfl rfl (Zu ?_)
  refine ZaB rfl h585 rfl rfl rfl (Zu ?_)
  refine Zoj (.inl rfl) rfl rfl rfl rfl rfl (fun W=>Zsu e784 e785 W) (Zu ?_)
  refine cS h rfl (fun h=>?_) fun h=>?_
  ·refine rg ?_
   obtain ⟨_,h586,h⟩:=bnd h
   refine ZmL rfl h586 rfl rfl rfl (Zu ?_)
   refine rg ?_
   refine bl ?_
   refine Zab h fun f97 mf97 hf97 h=>?_
   refine ZF (α:=Nat×(Int×Int×(List Link))) (fun a _=>mkS [(0,.row 0 (0,0)),(3,.int .i64 a.2.1),(4,.suf 0 (0,0) (x570).toNat 3),(5,.int .i64 a.2.2.1)] [(0,some ((0,0),.row 42 3 false (List.map Link.cs a.2.2.2)))] 2) (fun a=>Zbw a.1 f97 a.2=some r) (fun a=>a.1) (mf97,x570,1,p0) 2 h (sR []) (fun a _ h=>?_)
   obtain ⟨mf97,x830,x831,x832⟩:=a
   obtain ⟨mf97,rfl,h⟩:=Zac hf97 h
   dsimp only at h ⊢
   refine Zu ?_
   refine rg ?_
   refine ZrI (M:=x832) (f:=Link.cs) rfl rfl rfl (Zu ?_)
   refine cS h rfl (fun h=>?_) fun h=>?_
   ·refine ZcS h fun k98 hk98 h=>?_
    refine Zb8 (α:=Int×(List Link)) (fun a _=>mkS [(0,.row 0 (0,0)),(3,.int .i64 a.1),(4,.suf 0 (0,0) (x570).toNat 3),(5,.int .i64 x831)] [(0,some ((0,0),.row 42 3 false (List.map Link.cs a.2)))] 2) (fun a=>k98 a.1 a.2=some r) (Zu ?_) (fun a _ h=>?_)
    ·refine bl ?_
     refine rg ?_
     obtain ⟨e849,h631,h⟩:=bnd h
     refine Zeh rfl h631 rfl rfl rfl (Zu ?_)
     refine ZaB rfl (ZfW h631) rfl rfl rfl (Zu ?_)
     obtain ⟨e850,h632,h⟩:=bnd h
     refine Zeh rfl h632 rfl rfl rfl (Zu ?_)
     refine ZaB rfl (ZfW h632) rfl rfl rfl (Zu ?_)
     refine Zoj (.inr rfl) rfl rfl rfl rfl rfl (fun W=>Zpk e849 e850 W) (Zu ?_)
     refine cS h rfl (fun h=>?_) fun h=>?_
     ·refine rg ?_
      obtain ⟨e851,h633,h⟩:=bnd h
      refine Zeh rfl h633 rfl rfl rfl (Zu ?_)
      refine ZaB rfl (ZfW h633) rfl rfl rfl (Zu ?_)
      obtain ⟨e852,h634,h⟩:=bnd h
      refine ZM rfl h634 rfl rfl rfl (Zu ?_)
      refine Zb7 (e':=e851) rfl h634 rfl rfl rfl rfl rfl rfl (Nat.le_of_ble_eq_true rfl) rfl rfl (Zu ?_)
      refine rg ?_
      exact jn ((w64 (x830+1)),(ZeE x832 x830 e851)) h (sR [])
     exact jn (x830,x832) h (sR [])
    obtain ⟨x847,x848⟩:=a
    subst hk98
    dsimp only at h ⊢
    refine Zu ?_
    refine rg ?_
    exact rn (mf97,x847,(w64 (x831+1)),x848) h (sR [])
   refine rg ?_
   obtain ⟨_,h635,h⟩:=bnd h
   refine ZmL rfl h635 rfl rfl rfl (Zu ?_)
   refine ZmM (M:=x832) (f:=Link.cs) (zr:=(⟨0,(⟨0,(⟨#[]⟩:ByteArray)⟩:Title)⟩:Link)) rfl rfl rfl rfl rfl (Zu ?_)
   refine rg ?_
   obtain ⟨l854,h636,h⟩:=bnd h
   refine ZmN rfl h636 rfl rfl rfl (Zu ?_)
   cases h
   exact ZjN rfl rfl
  refine rg ?_
  exact rn (mf82,(w64 (x570+1))) h (sR [])
 refine rg ?_
 cases h
 exact ZjN rfl rfl
end Go.Proofs.YtmgfammllddkhaaGreatDoor
