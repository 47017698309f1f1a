/- Functions of the program as Lean functions. Written by fxgen.py. | A library function that turns a row of plain values and has a function behind it, as a contract; sorting. No program is named. | Comparisons that order totally. No program is named. | Sorted lists into which elements are put one by one, beside those that are sorted at once. | Titles are ordered (taken out of FS2); places in lists (out of PSa). | The reference's way to put an element into a sorted list. | The groups of a user: the reference's Groups ends. | The tape's views: they are made; their texts are not long. -/
import Derived.Test.YtpffimahajgiaaaGreatDoorVV04
import Derived.Test.YtpffimahajgiaaaGreatDoorVV09
import Derived.Test.YtpffimahajgiaaaGreatDoorVV07
import Derived.Test.YtpffimahajgiaaaGreatDoorVV03
import Derived.Test.YtpffimahajgiaaaGreatDoorVV05
import Derived.Shelf.SlSortCmp.NoneTotal
import Derived.Lib.Bytealg
import Derived.Lib.Small
import Derived.Test.YtpffimahajgiaaaGreatDoorVV06
import Derived.Test.YtpffimahajgiaaaGreatDoorVV08
set_option linter.unusedVariables false
set_option maxHeartbeats 4000000
set_option maxRecDepth 100000
namespace Go.Proofs.YtpffimahajgiaaaGreatDoor
open VL
def ZbL (p0:TapeF):Option (ByteArray×TapeF):=
 (ZW p0 [(⟨#[97,110,110]⟩:ByteArray),(⟨#[98,111,98]⟩:ByteArray),(⟨#[115,116,97,102,102]⟩:ByteArray),(⟨#[109,111,100,115]⟩:ByteArray),(⟨#[122,111,101]⟩:ByteArray)]).bind fun r1=>
 (some (r1.1,r1.2):Option (ByteArray×TapeF))
theorem Zfu (p0:TapeF) (r:ByteArray×TapeF) (h:ZbL p0=some r):Contract Tryz.prog 64 [.ptr 0 (0,0) 0] (some (0,p0.cs)) (.str r.1) (r.2).cs:=by
 refine ZaA (R:=fun r=>.str r.1) (O:=fun r=>(r.2).cs) h mix Tryz.func64 (by kernel_rfl) rfl (by kernel_rfl) fun r h=>?_
 unfold ZbL at h
 refine Zac ?_
 refine rg ?_
 refine rg ?_
 refine bM csS ([(⟨#[97,110,110]⟩:ByteArray),(⟨#[98,111,98]⟩:ByteArray),(⟨#[115,116,97,102,102]⟩:ByteArray),(⟨#[109,111,100,115]⟩:ByteArray),(⟨#[122,111,101]⟩:ByteArray)]:List ByteArray) ?_
 refine aO h (ZX _ _) fun r1 h=>?_
 cases h
 exact ZaF rfl rfl rfl rfl rfl
def ZaK (p0:TapeF):Option (Title×TapeF):=
 (ZS p0 6).bind fun r1=>
 (ZW r1.2 [(⟨#[65]⟩:ByteArray),(⟨#[66]⟩:ByteArray),(⟨#[65,47,66]⟩:ByteArray),(⟨#[67]⟩:ByteArray),(⟨#[84]⟩:ByteArray),(⟨#[85,47,120]⟩:ByteArray),(⟨#[65,47,66,47,99]⟩:ByteArray),(⟨#[76,111,110,103,32,110,97,109,101]⟩:ByteArray),(⟨#[49]⟩:ByteArray),(⟨#[88]⟩:ByteArray)]).bind fun r2=>
 (some ((⟨r1.1,r2.1⟩:Title),r2.2):Option (Title×TapeF))
theorem Zce (p0:TapeF) (r:Title×TapeF) (h:ZaK p0=some r):Contract Tryz.prog 30 [.ptr 0 (0,0) 0] (some (0,p0.cs)) (r.1.pv) (r.2).cs:=by
 refine ZaA (R:=fun r=>r.1.pv) (O:=fun r=>(r.2).cs) h mix Tryz.func30 (by kernel_rfl) rfl (by kernel_rfl) fun r h=>?_
 unfold ZaK at h
 refine Zac ?_
 refine rg ?_
 refine rg ?_
 refine aO h (ZI _ _) fun r1 h=>?_
 refine ZbD ([(⟨#[65]⟩:ByteArray),(⟨#[66]⟩:ByteArray),(⟨#[65,47,66]⟩:ByteArray),(⟨#[67]⟩:ByteArray),(⟨#[84]⟩:ByteArray),(⟨#[85,47,120]⟩:ByteArray),(⟨#[65,47,66,47,99]⟩:ByteArray),(⟨#[76,111,110,103,32,110,97,109,101]⟩:ByteArray),(⟨#[49]⟩:ByteArray),(⟨#[88]⟩:ByteArray)]:List ByteArray) rfl rfl rfl rfl (by decide) (Zac ?_)
 refine aO h (ZX _ _) fun r2 h=>?_
 cases h
 exact ZaF rfl rfl rfl rfl rfl
def Zaw (p0:TapeF):Option (Title×TapeF):=
 (ZW p0 [(⟨#[65]⟩:ByteArray),(⟨#[66]⟩:ByteArray),(⟨#[65,47,66]⟩:ByteArray),(⟨#[67]⟩:ByteArray),(⟨#[68]⟩:ByteArray)]).bind fun r1=>
 (some ((⟨0,r1.1⟩:Title),r1.2):Option (Title×TapeF))
theorem Zcf (p0:TapeF) (r:Title×TapeF) (h:Zaw p0=some r):Contract Tryz.prog 26 [.ptr 0 (0,0) 0] (some (0,p0.cs)) (r.1.pv) (r.2).cs:=by
 refine ZaA (R:=fun r=>r.1.pv) (O:=fun r=>(r.2).cs) h mix Tryz.func26 (by kernel_rfl) rfl (by kernel_rfl) fun r h=>?_
 unfold Zaw at h
 refine Zac ?_
 refine rg ?_
 refine rg ?_
 refine bM csS ([(⟨#[65]⟩:ByteArray),(⟨#[66]⟩:ByteArray),(⟨#[65,47,66]⟩:ByteArray),(⟨#[67]⟩:ByteArray),(⟨#[68]⟩:ByteArray)]:List ByteArray) ?_
 refine aO h (ZX _ _) fun r1 h=>?_
 cases h
 exact ZaF rfl rfl rfl rfl rfl
def Zbi (p0:TapeF):Option (Policy×TapeF):=
 (ZS p0 4).bind fun r1=>
 Zbf Zdy (fun f262 ((x1582,x1583,x1584,x1585):Int×(List Int)×Int×(List Group))=>
  if (decide (x1582<r1.1)) then
   (atI [(⟨#[115,116,97,102,102]⟩:ByteArray),(⟨#[109,111,100,115]⟩:ByteArray),(⟨#[103,111,108,100]⟩:ByteArray)] x1582).bind fun e2177=>
   Zbf Zdy (fun f310 ((x2306,x2307,x2308,x2309):Int×(List Int)×Int×(List ByteArray))=>
    (ZS (⟨x2307,x2308⟩:TapeF) 3).bind fun r2341=>
    if (decide (x2306<r2341.1)) then
     (ZbL r2341.2).bind fun r2357=>
     (ZS r2357.2 3).bind fun r2358=>
     letk (fun (x2362:ByteArray) (x2363:List Int) (x2364:Int)=>
      (ZS (⟨x2363,x2364⟩:TapeF) 9).bind fun r2365=>
      letk (fun (x2366:ByteArray)=>
       (Zc8 16 [] x2309).bind fun l2367=>
       (Zc8 16 l2367 [x2366]).bind fun l2368=>
       f310 ((w64 (x2306+1)),r2365.2.l,r2365.2.pos,l2368)) fun k314=>
      if (decide (r2365.1=0)) then
       k314 (⟨#[64,117,115,101,114,115]⟩:ByteArray)
      else
      k314 x2362) fun k313=>
     if (decide (r2358.1=0)) then
      (ZS r2358.2 r1.1).bind fun r2369=>
      (atI [(⟨#[115,116,97,102,102]⟩:ByteArray),(⟨#[109,111,100,115]⟩:ByteArray),(⟨#[103,111,108,100]⟩:ByteArray)] r2369.1).bind fun e2370=>
      (ZaW (⟨#[64]⟩:ByteArray) e2370).bind fun s2371=>
      k313 s2371 r2369.2.l r2369.2.pos
     else
     k313 r2357.1 r2358.2.l r2358.2.pos
    else
    (Zc8 40 [] x1585).bind fun l2372=>
    (Zc8 40 l2372 [(⟨e2177,x2309⟩:Group)]).bind fun l2373=>
    f262 ((w64 (x1582+1)),r2341.2.l,r2341.2.pos,l2373)) (0,x1583,x1584,[])
  else
  (Zfx [(⟨#[115,116,97,102,102]⟩:ByteArray),(⟨#[109,111,100,115]⟩:ByteArray),(⟨#[103,111,108,100]⟩:ByteArray)] 0 r1.1).bind fun l2374=>
  (Zc8 16 [(⟨#[97,108,108]⟩:ByteArray),(⟨#[117,115,101,114,115]⟩:ByteArray)] l2374).bind fun l2375=>
  Zbf Zdy (fun f326 ((x2504,x2505,x2506,x2507):Int×(List Int)×Int×(List Rule))=>
   (ZS (⟨x2505,x2506⟩:TapeF) 7).bind fun r2539=>
   if (decide (x2504<r2539.1)) then
    (ZS r2539.2 3).bind fun r2555=>
    (ZS r2555.2 5).bind fun r2556=>
    (ZW r2556.2 l2375).bind fun r2557=>
    (ZS r2557.2 3).bind fun r2558=>
    letk (fun (x2561:List Int) (x2562:Int) (x2563:Int) (x2564:Int) (x2565:ByteArray)=>
     (Zc8 64 [] x2507).bind fun l2566=>
     (Zc8 64 l2566 [(⟨(decide (0<r2555.1)),(w64 (1+r2556.1)),r2557.1,(⟨x2563,(⟨x2564,x2565⟩:Title)⟩:Scope)⟩:Rule)]).bind fun l2567=>
     f326 ((w64 (x2504+1)),x2561,x2562,l2567)) fun k328=>
    if (decide (r2558.1=0)) then
     k328 r2558.2.l r2558.2.pos 1 0 (⟨#[]⟩:ByteArray)
    else
    if (decide (r2558.1=1)) then
     (ZS r2558.2 6).bind fun r2568=>
     k328 r2568.2.l r2568.2.pos 2 r2568.1 (⟨#[]⟩:ByteArray)
    else
    (ZaK r2558.2).bind fun r2569=>
    k328 r2569.2.l r2569.2.pos 3 r2569.1.space r2569.1.name
   else
   Zbf Zdy (fun f330 ((x2626,x2627,x2628,x2629):Int×(List Int)×Int×(List Guard))=>
    (ZS (⟨x2627,x2628⟩:TapeF) 4).bind fun r2643=>
    if (decide (x2626<r2643.1)) then
     (ZS r2643.2 3).bind fun r2650=>
     (ZW r2650.2 l2375).bind fun r2651=>
     (ZaK r2651.2).bind fun r2652=>
     (ZW r2652.2 [(⟨#[]⟩:ByteArray),(⟨#[115]⟩:ByteArray),(⟨#[116]⟩:ByteArray),(⟨#[97,32,98]⟩:ByteArray)]).bind fun r2653=>
     (Zc8 64 [] x2629).bind fun l2654=>
     (Zc8 64 l2654 [(⟨(decide (r2650.1=0)),r2651.1,r2652.1,r2653.1⟩:Guard)]).bind fun l2655=>
     f330 ((w64 (x2626+1)),r2653.2.l,r2653.2.pos,l2655)
    else
    (some ((⟨x1585,x2507,x2629⟩:Policy),r2643.2):Option (Policy×TapeF))) (0,r2539.2.l,r2539.2.pos,[])) (0,x1583,x1584,[(⟨true,1,(⟨#[97,108,108]⟩:ByteArray),(⟨1,(⟨0,(⟨#[]⟩:ByteArray)⟩:Title)⟩:Scope)⟩:Rule)])) (0,r1.2.l,r1.2.pos,[])
theorem ZeP (p0:TapeF) (r:Policy×TapeF) (h:Zbi p0=some r):Contract Tryz.prog 22 [.ptr 0 (0,0) 0] (some (0,p0.cs)) (r.1.pv) (r.2).cs:=by
 refine ZaA (R:=fun r=>r.1.pv) (O:=fun r=>(r.2).cs) h mix Tryz.func22 (by kernel_rfl) rfl (by kernel_rfl) fun r h=>?_
 unfold Zbi at h
 refine Zac ?_
 refine rg ?_
 refine rg ?_
 refine rg ?_
 refine bM csS ([(⟨#[115,116,97,102,102]⟩:ByteArray),(⟨#[109,111,100,115]⟩:ByteArray),(⟨#[103,111,108,100]⟩:ByteArray)]:List ByteArray) ?_
 refine rg ?_
 refine aO h (ZI _ _) fun r1 h=>?_
 refine rg ?_
 refine bl ?_
 refine Zat h fun f262 mf262 hf262 h=>?_
 refine Zah (α:=Nat×(Int×(List Int)×Int×(List Group))) (fun a _=>mkS [(0,.ptr 0 (0,0) 0),(2,.ptr 2 (1,2) 0),(3,.ptr 3 (1,3) 0),(4,.row 15 (1,15)),(5,.int .i64 r1.1),(6,.int .i64 a.2.1)] [(0,some ((0,0),.box [.sl (List.map csI a.2.2.1),.int .i64 a.2.2.2.1])),(2,some ((1,2),.box [.nil,.nil,.nil])),(3,some ((1,3),.box [.sl (List.map Group.cs a.2.2.2.2),.sl (List.map Rule.cs []),.sl (List.map Guard.cs [])])),(15,some ((1,15),.row 9 1 false (List.map csS [(⟨#[115,116,97,102,102]⟩:ByteArray),(⟨#[109,111,100,115]⟩:ByteArray),(⟨#[103,111,108,100]⟩:ByteArray)])))] 2) (fun a=>Zbf a.1 f262 a.2=some r) (fun a=>a.1) (mf262,0,r1.2.l,r1.2.pos,[]) 2 h (Shift.trans (ZdN 3 rfl rfl) (sR [(2,1,0),(3,2,0),(15,3,0)])) (fun a _ h=>?_)
 obtain ⟨mf262,x1582,x1583,x1584,x1585⟩:=a
 obtain ⟨mf262,rfl,h⟩:=Zau hf262 h
 dsimp only at h ⊢
 refine Zac ?_
 refine rg ?_
 refine cS h rfl (fun h=>?_) fun h=>?_
 ·refine bl ?_
  refine rg ?_
  obtain ⟨e2177,h1553,h⟩:=bnd h
  refine ZcN rfl h1553 rfl rfl rfl (Zac ?_)
  refine Zgu rfl h1553 rfl rfl rfl (Zac ?_)
  refine rg ?_
  refine bl ?_
  refine Zat h fun f310 mf310 hf310 h=>?_
  refine Zah (α:=Nat×(Int×(List Int)×Int×(List ByteArray))) (fun a _=>mkS [(0,.ptr 0 (0,0) 0),(2,.ptr 2 (1,2) 0),(3,.ptr 3 (1,3) 0),(4,.row 15 (1,15)),(5,.int .i64 r1.1),(6,.int .i64 x1582),(7,.ptr 7 (1,7) 0),(8,.int .i64 a.2.1)] [(0,some ((0,0),.box [.sl (List.map csI a.2.2.1),.int .i64 a.2.2.2.1])),(2,some ((1,2),.box [.nil,.nil,.nil])),(3,some ((1,3),.box [.sl (List.map Group.cs x1585),.sl (List.map Rule.cs []),.sl (List.map Guard.cs [])])),(7,some ((1,7),.box [.str e2177,.sl (List.map csS a.2.2.2.2)])),(15,some ((1,15),.row 9 1 false (List.map csS [(⟨#[115,116,97,102,102]⟩:ByteArray),(⟨#[109,111,100,115]⟩:ByteArray),(⟨#[103,111,108,100]⟩:ByteArray)])))] 2) (fun a=>Zbf a.1 f310 a.2=some r) (fun a=>a.1) (mf310,0,x1583,x1584,[]) 2 h (Shift.trans (ZdN 7 rfl rfl) (sR [(2,1,2),(3,1,3),(7,3,5),(15,1,15)])) (fun a _ h=>?_)
  obtain ⟨mf310,x2306,x2307,x2308,x2309⟩:=a
  obtain ⟨mf310,rfl,h⟩:=Zau hf310 h
  dsimp only at h ⊢
  refine Zac ?_
  refine rg ?_
  refine aO h (ZI _ _) fun r2341 h=>?_
  refine cS h rfl (fun h=>?_) fun h=>?_
  ·refine bl ?_
   refine rg ?_
   refine aO h (Zfu _) fun r2357 h=>?_
   refine rg ?_
   refine aO h (ZI _ _) fun r2358 h=>?_
   refine Zbk h fun k313 hk313 h=>?_
   refine Zbv (α:=ByteArray×(List Int)×Int) (fun a _=>mkS [(0,.ptr 0 (0,0) 0),(2,.ptr 2 (1,2) 0),(3,.ptr 3 (1,3) 0),(4,.row 15 (1,15)),(5,.int .i64 r1.1),(6,.int .i64 x1582),(7,.ptr 7 (1,7) 0),(8,.int .i64 x2306),(9,.str a.1)] [(0,some ((0,0),.box [.sl (List.map csI a.2.1),.int .i64 a.2.2])),(2,some ((1,2),.box [.nil,.nil,.nil])),(3,some ((1,3),.box [.sl (List.map Group.cs x1585),.sl (List.map Rule.cs []),.sl (List.map Guard.cs [])])),(7,some ((1,7),.box [.str e2177,.sl (List.map csS x2309)])),(15,some ((1,15),.row 9 1 false (List.map csS [(⟨#[115,116,97,102,102]⟩:ByteArray),(⟨#[109,111,100,115]⟩:ByteArray),(⟨#[103,111,108,100]⟩:ByteArray)])))] 2) (fun a=>k313 a.1 a.2.1 a.2.2=some r) (Zac ?_) (fun a _ h=>?_)
   ·refine cS h rfl (fun h=>?_) fun h=>?_
    ·refine rg ?_
     refine aO h (ZI _ _) fun r2369 h=>?_
     obtain ⟨e2370,h1690,h⟩:=bnd h
     refine ZcN rfl h1690 rfl rfl rfl (Zac ?_)
     refine Zgu rfl h1690 rfl rfl rfl (Zac ?_)
     refine sT h fun s2371 h=>?_
     exact jn (s2371,r2369.2.l,r2369.2.pos) h (sR [(2,1,2),(3,1,3),(7,1,7),(15,1,15)])
    exact jn (r2357.1,r2358.2.l,r2358.2.pos) h (sR [(2,1,2),(3,1,3),(7,1,7),(15,1,15)])
   obtain ⟨x2362,x2363,x2364⟩:=a
   subst hk313
   dsimp only at h ⊢
   refine Zac ?_
   refine rg ?_
   refine aO h (ZI _ _) fun r2365 h=>?_
   refine jL h (fun x2366=>mkS [(0,.ptr 0 (0,0) 0),(2,.ptr 2 (1,2) 0),(3,.ptr 3 (1,3) 0),(4,.row 15 (1,15)),(5,.int .i64 r1.1),(6,.int .i64 x1582),(7,.ptr 7 (1,7) 0),(8,.int .i64 x2306),(9,.str x2366)] [(0,some ((0,0),.box (TapeF.cs r2365.2))),(2,some ((1,2),.box [.nil,.nil,.nil])),(3,some ((1,3),.box [.sl (List.map Group.cs x1585),.sl (List.map Rule.cs []),.sl (List.map Guard.cs [])])),(7,some ((1,7),.box [.str e2177,.sl (List.map csS x2309)])),(15,some ((1,15),.row 9 1 false (List.map csS [(⟨#[115,116,97,102,102]⟩:ByteArray),(⟨#[109,111,100,115]⟩:ByteArray),(⟨#[103,111,108,100]⟩:ByteArray)])))] 2) (fun k314 h=>?_) fun x2366 h=>?_
   ·refine cS h rfl (fun h=>?_) fun h=>?_
    ·refine rg ?_
     exact jn (⟨#[64,117,115,101,114,115]⟩:ByteArray) h (sR [(2,1,2),(3,1,3),(7,1,7),(15,1,15)])
    exact jn x2362 h (sR [(2,1,2),(3,1,3),(7,1,7),(15,1,15)])
   refine rg ?_
   obtain ⟨l2367,h1687,h⟩:=bnd h
   refine Zd8 (f:=csS) rfl h1687 (fun _=>rfl) rfl rfl rfl (Zac ?_)
   refine bM csS ([x2366]:List ByteArray) ?_
   refine pR csS h fun l2368 h=>?_
   refine rg ?_
   exact rn (mf310,(w64 (x2306+1)),r2365.2.l,r2365.2.pos,l2368) h (Shift.trans (ZdN 7 rfl rfl) (sR [(2,1,2),(3,1,3),(7,1,7),(15,1,15)]))
  refine rg ?_
  obtain ⟨l2372,h1692,h⟩:=bnd h
  refine Zd8 (f:=Group.cs) rfl h1692 (fun _=>rfl) rfl rfl rfl (Zac ?_)
  refine Zbn (M:=([(⟨e2177,x2309⟩:Group)]:List Group)) (f:=Group.cs) rfl rfl rfl rfl (Nat.le_of_ble_eq_true rfl) rfl (Zac ?_)
  refine pR Group.cs h fun l2373 h=>?_
  refine rg ?_
  exact rn (mf262,(w64 (x1582+1)),r2341.2.l,r2341.2.pos,l2373) h (Shift.trans (ZdN 3 rfl rfl) (sR [(2,1,2),(3,1,3),(15,1,15)]))
 refine rg ?_
 refine bM csS ([(⟨#[97,108,108]⟩:ByteArray),(⟨#[117,115,101,114,115]⟩:ByteArray)]:List ByteArray) ?_
 refine sM csS h fun l2374 h=>?_
 refine pR csS h fun l2375 h=>?_
 refine rg ?_
 refine Zbn (M:=([(⟨true,1,(⟨#[97,108,108]⟩:ByteArray),(⟨1,(⟨0,(⟨#[]⟩:ByteArray)⟩:Title)⟩:Scope)⟩:Rule)]:List Rule)) (f:=Rule.cs) rfl rfl rfl rfl (Nat.le_of_ble_eq_true rfl) rfl (Zac ?_)
 refine rg ?_
 refine bl ?_
 refine Zat h fun f326 mf326 hf326 h=>?_
 refine Zah (α:=Nat×(Int×(List Int)×Int×(List Rule))) (fun a _=>mkS [(0,.ptr 0 (0,0) 0),(2,.ptr 2 (1,2) 0),(3,.ptr 3 (1,3) 0),(10,.row 63 (1,63)),(11,.int .i64 a.2.1)] [(0,some ((0,0),.box [.sl (List.map csI a.2.2.1),.int .i64 a.2.2.2.1])),(2,some ((1,2),.box [.nil,.nil,.nil])),(3,some ((1,3),.box [.sl (List.map Group.cs x1585),.sl (List.map Rule.cs a.2.2.2.2),.sl (List.map Guard.cs [])])),(63,some ((1,63),.row 9 1 true (List.map csS l2375)))] 2) (fun a=>Zbf a.1 f326 a.2=some r) (fun a=>a.1) (mf326,0,x1583,x1584,[(⟨true,1,(⟨#[97,108,108]⟩:ByteArray),(⟨1,(⟨0,(⟨#[]⟩:ByteArray)⟩:Title)⟩:Scope)⟩:Rule)]) 2 h (Shift.trans (ZdN 3 rfl rfl) (Shift.trans (ZkG 63 rfl) (sR [(2,1,2),(3,1,3),(63,3,4)]))) (fun a _ h=>?_)
 obtain ⟨mf326,x2504,x2505,x2506,x2507⟩:=a
 obtain ⟨mf326,rfl,h⟩:=Zau hf326 h
 dsimp only at h ⊢
 refine Zac ?_
 refine rg ?_
 refine aO h (ZI _ _) fun r2539 h=>?_
 refine cS h rfl (fun h=>?_) fun h=>?_
 ·refine bl ?_
  refine rg ?_
  refine aO h (ZI _ _) fun r2555 h=>?_
  refine aO h (ZI _ _) fun r2556 h=>?_
  refine aO h (ZX _ _) fun r2557 h=>?_
  refine rg ?_
  refine aO h (ZI _ _) fun r2558 h=>?_
  refine Zbk h fun k328 hk328 h=>?_
  refine Zbv (α:=(List Int)×Int×Int×Int×ByteArray) (fun a _=>mkS [(0,.ptr 0 (0,0) 0),(2,.ptr 2 (1,2) 0),(3,.ptr 3 (1,3) 0),(10,.row 63 (1,63)),(11,.int .i64 x2504),(12,.ptr 12 (1,12) 0)] [(0,some ((0,0),.box [.sl (List.map csI a.1),.int .i64 a.2.1])),(2,some ((1,2),.box [.nil,.nil,.nil])),(3,some ((1,3),.box [.sl (List.map Group.cs x1585),.sl (List.map Rule.cs x2507),.sl (List.map Guard.cs [])])),(12,some ((1,12),.box [.bool (decide (0<r2555.1)),.int .i64 (w64 (1+r2556.1)),.str r2557.1,.int .i64 a.2.2.1,.int .i64 a.2.2.2.1,.str a.2.2.2.2])),(63,some ((1,63),.row 9 1 true (List.map csS l2375)))] 2) (fun a=>k328 a.1 a.2.1 a.2.2.1 a.2.2.2.1 a.2.2.2.2=some r) (Zac ?_) (fun a _ h=>?_)
  ·refine bl ?_
   refine rg ?_
   refine cS h rfl (fun h=>?_) fun h=>?_
   ·refine rg ?_
    exact jn (r2558.2.l,r2558.2.pos,1,0,(⟨#[]⟩:ByteArray)) h (sR [(2,1,2),(3,1,3),(12,3,10),(63,1,63)])
   refine rg ?_
   refine cS h rfl (fun h=>?_) fun h=>?_
   ·refine rg ?_
    refine aO h (ZI _ _) fun r2568 h=>?_
    exact jn (r2568.2.l,r2568.2.pos,2,r2568.1,(⟨#[]⟩:ByteArray)) h (sR [(2,1,2),(3,1,3),(12,3,10),(63,1,63)])
   refine rg ?_
   refine aO h (Zce _) fun r2569 h=>?_
   exact jn (r2569.2.l,r2569.2.pos,3,r2569.1.space,r2569.1.name) h (sR [(2,1,2),(3,1,3),(12,3,10),(63,1,63)])
  obtain ⟨x2561,x2562,x2563,x2564,x2565⟩:=a
  subst hk328
  dsimp only at h ⊢
  refine Zac ?_
  refine rg ?_
  obtain ⟨l2566,h1818,h⟩:=bnd h
  refine Zd8 (f:=Rule.cs) rfl h1818 (fun _=>rfl) rfl rfl rfl (Zac ?_)
  refine Zbn (M:=([(⟨(decide (0<r2555.1)),(w64 (1+r2556.1)),r2557.1,(⟨x2563,(⟨x2564,x2565⟩:Title)⟩:Scope)⟩:Rule)]:List Rule)) (f:=Rule.cs) rfl rfl rfl rfl (Nat.le_of_ble_eq_true rfl) rfl (Zac ?_)
  refine pR Rule.cs h fun l2567 h=>?_
  refine rg ?_
  exact rn (mf326,(w64 (x2504+1)),x2561,x2562,l2567) h (Shift.trans (ZdN 3 rfl rfl) (sR [(2,1,2),(3,1,3),(63,1,63)]))
 refine rg ?_
 refine bl ?_
 refine Zat h fun f330 mf330 hf330 h=>?_
 refine Zah (α:=Nat×(Int×(List Int)×Int×(List Guard))) (fun a _=>mkS [(0,.ptr 0 (0,0) 0),(2,.ptr 2 (1,2) 0),(3,.ptr 3 (1,3) 0),(10,.row 63 (1,63)),(13,.int .i64 a.2.1)] [(0,some ((0,0),.box [.sl (List.map csI a.2.2.1),.int .i64 a.2.2.2.1])),(2,some ((1,2),.box [.nil,.nil,.nil])),(3,some ((1,3),.box [.sl (List.map Group.cs x1585),.sl (List.map Rule.cs x2507),.sl (List.map Guard.cs a.2.2.2.2)])),(63,some ((1,63),.row 9 1 true (List.map csS l2375)))] 2) (fun a=>Zbf a.1 f330 a.2=some r) (fun a=>a.1) (mf330,0,r2539.2.l,r2539.2.pos,[]) 2 h (sR [(2,1,2),(3,1,3),(63,1,63)]) (fun a _ h=>?_)
 obtain ⟨mf330,x2626,x2627,x2628,x2629⟩:=a
 obtain ⟨mf330,rfl,h⟩:=Zau hf330 h
 dsimp only at h ⊢
 refine Zac ?_
 refine rg ?_
 refine aO h (ZI _ _) fun r2643 h=>?_
 refine cS h rfl (fun h=>?_) fun h=>?_
 ·refine bl ?_
  refine rg ?_
  refine aO h (ZI _ _) fun r2650 h=>?_
  refine aO h (ZX _ _) fun r2651 h=>?_
  refine aO h (Zce _) fun r2652 h=>?_
  refine bM csS ([(⟨#[]⟩:ByteArray),(⟨#[115]⟩:ByteArray),(⟨#[116]⟩:ByteArray),(⟨#[97,32,98]⟩:ByteArray)]:List ByteArray) ?_
  refine aO h (ZX _ _) fun r2653 h=>?_
  refine rg ?_
  obtain ⟨l2654,h1898,h⟩:=bnd h
  refine Zd8 (f:=Guard.cs) rfl h1898 (fun _=>rfl) rfl rfl rfl (Zac ?_)
  refine Zbn (M:=([(⟨(decide (r2650.1=0)),r2651.1,r2652.1,r2653.1⟩:Guard)]:List Guard)) (f:=Guard.cs) rfl rfl rfl rfl (Nat.le_of_ble_eq_true rfl) rfl (Zac ?_)
  refine pR Guard.cs h fun l2655 h=>?_
  refine rg ?_
  exact rn (mf330,(w64 (x2626+1)),r2653.2.l,r2653.2.pos,l2655) h (Shift.trans (ZdN 3 rfl rfl) (sR [(2,1,2),(3,1,3),(63,1,63)]))
 refine rg ?_
 cases h
 exact ZaF rfl rfl rfl rfl rfl
def ZbM (p0:TapeF):Option (ByteArray×TapeF):=
 (ZW p0 [(⟨#[97,110,110]⟩:ByteArray),(⟨#[98,111,98]⟩:ByteArray),(⟨#[]⟩:ByteArray),(⟨#[122,111,101]⟩:ByteArray)]).bind fun r1=>
 (some (r1.1,r1.2):Option (ByteArray×TapeF))
theorem Zfv (p0:TapeF) (r:ByteArray×TapeF) (h:ZbM p0=some r):Contract Tryz.prog 25 [.ptr 0 (0,0) 0] (some (0,p0.cs)) (.str r.1) (r.2).cs:=by
 refine ZaA (R:=fun r=>.str r.1) (O:=fun r=>(r.2).cs) h mix Tryz.func25 (by kernel_rfl) rfl (by kernel_rfl) fun r h=>?_
 unfold ZbM at h
 refine Zac ?_
 refine rg ?_
 refine rg ?_
 refine bM csS ([(⟨#[97,110,110]⟩:ByteArray),(⟨#[98,111,98]⟩:ByteArray),(⟨#[]⟩:ByteArray),(⟨#[122,111,101]⟩:ByteArray)]:List ByteArray) ?_
 refine aO h (ZX _ _) fun r1 h=>?_
 cases h
 exact ZaF rfl rfl rfl rfl rfl
def Zc5 (p0:List Title) (p1:Title):Option (List Title):=
 Zbf Zdy (fun f7 (x22:Int)=>
  letk (fun (x30:Bool)=>
   if x30 then
    f7 (w64 (x22+1))
   else
   letk (fun (x32:Bool)=>
    if x32 then
     (some p0:Option (List Title))
    else
    (Zfx p0 0 x22).bind fun l33=>
    (Zc8 24 [] l33).bind fun l34=>
    (Zc8 24 l34 [p1]).bind fun l35=>
    (Zfx p0 x22 (p0.length:Int)).bind fun l36=>
    (Zc8 24 l35 l36).bind fun l37=>
    (some l37:Option (List Title))) fun k9=>
   if (decide (x22<(p0.length:Int))) then
    (atI p0 x22).bind fun e38=>
    k9 (decide (e38=p1))
   else
   k9 false) fun k8=>
  if (decide (x22<(p0.length:Int))) then
   (atI p0 x22).bind fun e39=>
   (ZcA e39 p1).bind fun r40=>
   k8 (decide (r40<0))
  else
  k8 false) 0
theorem Zj1 (p0:List Title) (p1:Title) (r:List Title) (h:Zc5 p0 p1=some r):ZH Tryz.prog 27 [.sl (List.map Title.cs p0),p1.pv] (.sl (List.map Title.cs r)):=by
 refine cF (fun r=>.sl (List.map Title.cs r)) h mix Tryz.func27 fun r h=>?_
 unfold Zc5 at h
 refine Zac ?_
 refine rg ?_
 refine rg ?_
 refine bl ?_
 refine Zat h fun f7 mf7 hf7 h=>?_
 refine Zah (α:=Nat×Int) (fun a _=>mkS [(0,.sl (List.map Title.cs p0)),(3,.ptr 3 (1,3) 0),(5,.int .i64 a.2)] [(3,some ((1,3),.box (Title.cs p1)))] 2) (fun a=>Zbf a.1 f7 a.2=some r) (fun a=>a.1) (mf7,0) 2 h (sR [(3,1,0)]) (fun a _ h=>?_)
 obtain ⟨mf7,x22⟩:=a
 obtain ⟨mf7,rfl,h⟩:=Zau hf7 h
 dsimp only at h ⊢
 refine Zac ?_
 refine jL h (fun x30=>mkS [(0,.sl (List.map Title.cs p0)),(3,.ptr 3 (1,3) 0),(5,.int .i64 x22),(18,.bool x30)] [(3,some ((1,3),.box (Title.cs p1)))] 2) (fun k8 h=>?_) fun x30 h=>?_
 ·refine rg ?_
  refine lM Title.cs p0 ?_
  refine kS 10 h rfl (fun h=>?_) fun h=>?_
  ·refine aI Title.cs h fun e39 h=>?_
   refine aC h (ZeG _ _) fun r40 h=>?_
   exact jn (decide (r40<0)) h (sR [(3,1,3)])
  iterate 7 refine ZY rfl (Zac ?_)
  exact jn false h (sR [(3,1,3)])
 refine cS h rfl (fun h=>?_) fun h=>?_
 ·refine bl ?_
  refine rg ?_
  exact rn (mf7,(w64 (x22+1))) h (sR [(3,1,3)])
 refine jL h (fun x32=>mkS [(0,.sl (List.map Title.cs p0)),(3,.ptr 3 (1,3) 0),(5,.int .i64 x22),(32,.bool x32)] [(3,some ((1,3),.box (Title.cs p1)))] 2) (fun k9 h=>?_) fun x32 h=>?_
 ·refine rg ?_
  refine lM Title.cs p0 ?_
  refine kS 25 h rfl (fun h=>?_) fun h=>?_
  ·refine aI Title.cs h fun e38 h=>?_
   refine ZfA (.inl rfl) rfl rfl rfl rfl rfl (fun W=>Zd4 e38 p1 W) (Zac ?_)
   exact jn (decide (e38=p1)) h (sR [(3,1,3)])
  iterate 6 refine ZY rfl (Zac ?_)
  exact jn false h (sR [(3,1,3)])
 refine cS h rfl (fun h=>?_) fun h=>?_
 ·refine rg ?_
  cases h
  exact rQ
 refine rg ?_
 refine sM Title.cs h fun l33 h=>?_
 obtain ⟨l34,h25,h⟩:=bnd h
 refine Zd8 (f:=Title.cs) rfl h25 (fun _=>rfl) rfl rfl rfl (Zac ?_)
 refine Zbn (M:=([p1]:List Title)) (f:=Title.cs) rfl rfl rfl rfl (Nat.le_of_ble_eq_true rfl) rfl (Zac ?_)
 refine pR Title.cs h fun l35 h=>?_
 refine sM Title.cs h fun l36 h=>?_
 refine pR Title.cs h fun l37 h=>?_
 cases h
 exact rQ
def ZbN (p0:TapeF) (p1:Int):Option (View×TapeF):=
 (Zbi p0).bind fun r1=>
 (ZS r1.2 600000).bind fun r2=>
 (ZbM r2.2).bind fun r3=>
 (ZcE r1.1 r3.1).bind fun r4=>
 (ZS r3.2 6).bind fun r5=>
 Zbf Zdy (fun f12 ((x82,x83,x84,x85):(List Title)×Int×(List Int)×Int)=>
  if (decide (x83<r5.1)) then
   (Zaw (⟨x84,x85⟩:TapeF)).bind fun r113=>
   (ZS r113.2 3).bind fun r114=>
   letk (fun (x116:List Int) (x117:Int) (x118:Int) (x119:ByteArray)=>
    (Zc5 x82 (⟨x118,x119⟩:Title)).bind fun r120=>
    f12 (r120,(w64 (x83+1)),x116,x117)) fun k14=>
   if (decide (r114.1=0)) then
    (ZW r114.2 [(⟨#[84]⟩:ByteArray),(⟨#[65]⟩:ByteArray),(⟨#[66]⟩:ByteArray),(⟨#[85,47,120]⟩:ByteArray),(⟨#[88]⟩:ByteArray)]).bind fun r121=>
    k14 r121.2.l r121.2.pos 3 r121.1
   else
   k14 r114.2.l r114.2.pos r113.1.space r113.1.name
  else
  Zbf Zdy (fun f16 ((x158,x159,x160,x161):Int×(List Int)×Int×(List Page))=>
   if (decide (x158<(x82.length:Int))) then
    (atI x82 x158).bind fun e174=>
    (ZbS (⟨x159,x160⟩:TapeF) p1).bind fun r175=>
    (ZS r175.2 9).bind fun r176=>
    (Zc8 48 x161 [(⟨e174,r175.1,(w64 (1+r176.1))⟩:Page)]).bind fun l177=>
    f16 ((w64 (x158+1)),r176.2.l,r176.2.pos,l177)
   else
   (some ((⟨x161,r1.1,r4,(w64 (r2.1 * 80)),([]:List Asked)⟩:View),(⟨x159,x160⟩:TapeF)):Option (View×TapeF))) (0,x84,x85,([]:List Page))) ([],0,r5.2.l,r5.2.pos)
theorem Zfw (p0:TapeF) (p1:Int) (r:View×TapeF) (h:ZbN p0 p1=some r):Contract Tryz.prog 8 [.ptr 0 (0,0) 0,.int .i64 p1] (some (0,p0.cs)) (r.1.pv) (r.2).cs:=by
 refine ZaA (R:=fun r=>r.1.pv) (O:=fun r=>(r.2).cs) h mix Tryz.func8 (by kernel_rfl) rfl (by kernel_rfl) fun r h=>?_
 unfold ZbN at h
 refine Zac ?_
 refine rg ?_
 refine Zbj (Zb2 4 1400 0 54 4 rfl rfl rfl) (Zac ?_) (List.cons_ne_nil _ _)
 refine Zbj (Zb2 4 1401 1 67 2 rfl rfl rfl) (Zac ?_) (List.cons_ne_nil _ _)
 refine Zbj (Zb2 4 1402 2 83 6 rfl rfl rfl) (Zac ?_) (List.cons_ne_nil _ _)
 refine Zbj (Zb2 4 1403 3 128 5 rfl rfl rfl) (Zac ?_) (List.cons_ne_nil _ _)
 refine Zbj (Zb2 4 1404 4 9 1 rfl rfl rfl) (Zac ?_) (List.cons_ne_nil _ _)
 refine Zbj (Zb2 4 1406 6 65 7 rfl rfl rfl) (Zac ?_) (List.cons_ne_nil _ _)
 refine rg ?_
 refine aO h (ZeP _) fun r1 h=>?_
 refine aO h (ZI _ _) fun r2 h=>?_
 refine Zbj (Zb2 5 1500 0 54 4 rfl rfl rfl) (Zac ?_) (List.cons_ne_nil _ _)
 refine Zbj (Zb2 5 1504 4 9 1 rfl rfl rfl) (Zac ?_) (List.cons_ne_nil _ _)
 refine Zbj (Zb2 5 1506 6 65 7 rfl rfl rfl) (Zac ?_) (List.cons_ne_nil _ _)
 refine rg ?_
 refine aO h (Zfv _) fun r3 h=>?_
 refine aC h (Zhy _ _) fun r4 h=>?_
 refine rg ?_
 refine rg ?_
 refine aO h (ZI _ _) fun r5 h=>?_
 refine rg ?_
 refine bl ?_
 refine Zat h fun f12 mf12 hf12 h=>?_
 refine Zah (α:=Nat×((List Title)×Int×(List Int)×Int)) (fun a _=>mkS [(0,.ptr 0 (0,0) 0),(1,.int .i64 p1),(4,.ptr 4 (1,4) 0),(5,.ptr 5 (1,5) 0),(6,.sl (List.map Title.cs a.2.1)),(7,.int .i64 r5.1),(8,.int .i64 a.2.2.1)] [(0,some ((0,0),.box [.sl (List.map csI a.2.2.2.1),.int .i64 a.2.2.2.2])),(4,some ((1,4),.box [.row 1400 (1,1400),.row 1401 (1,1401),.row 1402 (1,1402),.row 1403 (1,1403),.row 1404 (1,1404),.int .i64 0,.row 1406 (1,1406)])),(5,some ((1,5),.box [.row 1500 (1,1500),.sl (List.map Group.cs r1.1.groups),.sl (List.map Rule.cs r1.1.rules),.sl (List.map Guard.cs r1.1.guards),.sl (List.map csS r4),.int .i64 (w64 (r2.1 * 80)),.row 1506 (1,1506)])),(1400,some ((1,1400),.row 54 4 false (List.map Page.cs ([]:List Page)))),(1401,some ((1,1401),.row 67 2 false (List.map Group.cs ([]:List Group)))),(1402,some ((1,1402),.row 83 6 false (List.map Rule.cs ([]:List Rule)))),(1403,some ((1,1403),.row 128 5 false (List.map Guard.cs ([]:List Guard)))),(1404,some ((1,1404),.row 9 1 false (List.map csS ([]:List ByteArray)))),(1406,some ((1,1406),.row 65 7 false (List.map Asked.cs ([]:List Asked)))),(1500,some ((1,1500),.row 54 4 false (List.map Page.cs ([]:List Page)))),(1506,some ((1,1506),.row 65 7 false (List.map Asked.cs ([]:List Asked))))] 2) (fun a=>Zbf a.1 f12 a.2=some r) (fun a=>a.1) (mf12,[],0,r5.2.l,r5.2.pos) 2 h (Shift.trans (Zj2 6 rfl rfl) (sR [(4,1,0),(5,8,6),(1400,2,0),(1401,3,0),(1402,4,0),(1403,5,0),(1404,6,0),(1406,7,0),(1500,9,0),(1506,11,0)])) (fun a _ h=>?_)
 obtain ⟨mf12,x82,x83,x84,x85⟩:=a
 obtain ⟨mf12,rfl,h⟩:=Zau hf12 h
 dsimp only at h ⊢
 refine Zac ?_
 refine rg ?_
 refine cS h rfl (fun h=>?_) fun h=>?_
 ·refine bl ?_
  refine rg ?_
  refine aO h (Zcf _) fun r113 h=>?_
  refine rg ?_
  refine aO h (ZI _ _) fun r114 h=>?_
  refine Zbk h fun k14 hk14 h=>?_
  refine Zbv (α:=(List Int)×Int×Int×ByteArray) (fun a _=>mkS [(0,.ptr 0 (0,0) 0),(1,.int .i64 p1),(4,.ptr 4 (1,4) 0),(5,.ptr 5 (1,5) 0),(6,.sl (List.map Title.cs x82)),(7,.int .i64 r5.1),(8,.int .i64 x83),(9,.ptr 9 (1,9) 0)] [(0,some ((0,0),.box [.sl (List.map csI a.1),.int .i64 a.2.1])),(4,some ((1,4),.box [.row 1400 (1,1400),.row 1401 (1,1401),.row 1402 (1,1402),.row 1403 (1,1403),.row 1404 (1,1404),.int .i64 0,.row 1406 (1,1406)])),(5,some ((1,5),.box [.row 1500 (1,1500),.sl (List.map Group.cs r1.1.groups),.sl (List.map Rule.cs r1.1.rules),.sl (List.map Guard.cs r1.1.guards),.sl (List.map csS r4),.int .i64 (w64 (r2.1 * 80)),.row 1506 (1,1506)])),(9,some ((1,9),.box [.int .i64 a.2.2.1,.str a.2.2.2])),(1400,some ((1,1400),.row 54 4 false (List.map Page.cs ([]:List Page)))),(1401,some ((1,1401),.row 67 2 false (List.map Group.cs ([]:List Group)))),(1402,some ((1,1402),.row 83 6 false (List.map Rule.cs ([]:List Rule)))),(1403,some ((1,1403),.row 128 5 false (List.map Guard.cs ([]:List Guard)))),(1404,some ((1,1404),.row 9 1 false (List.map csS ([]:List ByteArray)))),(1406,some ((1,1406),.row 65 7 false (List.map Asked.cs ([]:List Asked)))),(1500,some ((1,1500),.row 54 4 false (List.map Page.cs ([]:List Page)))),(1506,some ((1,1506),.row 65 7 false (List.map Asked.cs ([]:List Asked))))] 2) (fun a=>k14 a.1 a.2.1 a.2.2.1 a.2.2.2=some r) (Zac ?_) (fun a _ h=>?_)
  ·refine cS h rfl (fun h=>?_) fun h=>?_
   ·refine rg ?_
    refine bM csS ([(⟨#[84]⟩:ByteArray),(⟨#[65]⟩:ByteArray),(⟨#[66]⟩:ByteArray),(⟨#[85,47,120]⟩:ByteArray),(⟨#[88]⟩:ByteArray)]:List ByteArray) ?_
    refine aO h (ZX _ _) fun r121 h=>?_
    exact jn (r121.2.l,r121.2.pos,3,r121.1) h (sR [(4,1,4),(5,1,5),(9,3,2),(1400,1,1400),(1401,1,1401),(1402,1,1402),(1403,1,1403),(1404,1,1404),(1406,1,1406),(1500,1,1500),(1506,1,1506)])
   exact jn (r114.2.l,r114.2.pos,r113.1.space,r113.1.name) h (sR [(4,1,4),(5,1,5),(9,3,2),(1400,1,1400),(1401,1,1401),(1402,1,1402),(1403,1,1403),(1404,1,1404),(1406,1,1406),(1500,1,1500),(1506,1,1506)])
  obtain ⟨x116,x117,x118,x119⟩:=a
  subst hk14
  dsimp only at h ⊢
  refine Zac ?_
  refine rg ?_
  refine aC h (Zj1 _ _) fun r120 h=>?_
  refine rg ?_
  exact rn (mf12,r120,(w64 (x83+1)),x116,x117) h (sR [(4,1,4),(5,1,5),(1400,1,1400),(1401,1,1401),(1402,1,1402),(1403,1,1403),(1404,1,1404),(1406,1,1406),(1500,1,1500),(1506,1,1506)])
 refine rg ?_
 refine bl ?_
 refine Zat h fun f16 mf16 hf16 h=>?_
 refine Zah (α:=Nat×(Int×(List Int)×Int×(List Page))) (fun a _=>mkS [(0,.ptr 0 (0,0) 0),(1,.int .i64 p1),(4,.ptr 4 (1,4) 0),(5,.ptr 5 (1,5) 0),(6,.sl (List.map Title.cs x82)),(10,.int .i64 a.2.1)] [(0,some ((0,0),.box [.sl (List.map csI a.2.2.1),.int .i64 a.2.2.2.1])),(4,some ((1,4),.box [.row 1400 (1,1400),.row 1401 (1,1401),.row 1402 (1,1402),.row 1403 (1,1403),.row 1404 (1,1404),.int .i64 0,.row 1406 (1,1406)])),(5,some ((1,5),.box [.row 1500 (1,1500),.sl (List.map Group.cs r1.1.groups),.sl (List.map Rule.cs r1.1.rules),.sl (List.map Guard.cs r1.1.guards),.sl (List.map csS r4),.int .i64 (w64 (r2.1 * 80)),.row 1506 (1,1506)])),(1400,some ((1,1400),.row 54 4 false (List.map Page.cs ([]:List Page)))),(1401,some ((1,1401),.row 67 2 false (List.map Group.cs ([]:List Group)))),(1402,some ((1,1402),.row 83 6 false (List.map Rule.cs ([]:List Rule)))),(1403,some ((1,1403),.row 128 5 false (List.map Guard.cs ([]:List Guard)))),(1404,some ((1,1404),.row 9 1 false (List.map csS ([]:List ByteArray)))),(1406,some ((1,1406),.row 65 7 false (List.map Asked.cs ([]:List Asked)))),(1500,some ((1,1500),.row 54 4 false (List.map Page.cs a.2.2.2.2))),(1506,some ((1,1506),.row 65 7 false (List.map Asked.cs ([]:List Asked))))] 2) (fun a=>Zbf a.1 f16 a.2=some r) (fun a=>a.1) (mf16,0,x84,x85,([]:List Page)) 2 h (sR [(4,1,4),(5,1,5),(1400,1,1400),(1401,1,1401),(1402,1,1402),(1403,1,1403),(1404,1,1404),(1406,1,1406),(1500,1,1500),(1506,1,1506)]) (fun a _ h=>?_)
 obtain ⟨mf16,x158,x159,x160,x161⟩:=a
 obtain ⟨mf16,rfl,h⟩:=Zau hf16 h
 dsimp only at h ⊢
 refine Zac ?_
 refine rg ?_
 refine lM Title.cs x82 ?_
 refine cS h rfl (fun h=>?_) fun h=>?_
 ·refine bl ?_
  refine rg ?_
  refine aI Title.cs h fun e174 h=>?_
  refine aO h (ZfF _ _) fun r175 h=>?_
  refine aO h (ZI _ _) fun r176 h=>?_
  refine Zbn (M:=([(⟨e174,r175.1,(w64 (1+r176.1))⟩:Page)]:List Page)) (f:=Page.cs) rfl rfl rfl rfl (Nat.le_of_ble_eq_true rfl) rfl (Zac ?_)
  refine pR Page.cs h fun l177 h=>?_
  refine rg ?_
  exact rn (mf16,(w64 (x158+1)),r176.2.l,r176.2.pos,l177) h (sR [(4,1,4),(5,1,5),(1400,1,1400),(1401,1,1401),(1402,1,1402),(1403,1,1403),(1404,1,1404),(1406,1,1406),(1500,3,14),(1506,1,1506)])
 refine rg ?_
 cases h
 exact ZaF rfl rfl rfl rfl rfl
end Go.Proofs.YtpffimahajgiaaaGreatDoor

namespace Go.Proofs.YtpffimahajgiaaaGreatDoor
namespace VL
open Go.Sort
structure CmpLaws {α:Type} (c:α→α→Int):Prop where
 zero:∀ x y,c x y=0↔x=y
 neg:∀ x y,c x y<0↔0<c y x
 trans:∀ x y z,c x y<0→c y z<0→c x z<0
def Zmu (a b:Int):Int:=if a=0 then b else a
theorem CmpLaws.lex {α β γ:Type} {c:β→β→Int} {d:γ→γ→Int} (hc:CmpLaws c) (hd:CmpLaws d) {f:α→β} {g:α→γ} (hi:∀ x y,f x=f y→g x=g y→x=y):CmpLaws fun x y=>Zmu (c (f x) (f y)) (d (g x) (g y)) where
 zero x y:=by
  unfold Zmu
  by_cases h:c (f x) (f y)=0
  ·rw [if_pos h]
   exact ⟨fun h2=>hi x y ((hc.zero _ _).1 h) ((hd.zero _ _).1 h2),fun h2=>by rw [h2];exact (hd.zero _ _).2 rfl⟩
  ·rw [if_neg h]
   exact ⟨fun h2=>absurd h2 h,fun h2=>absurd ((hc.zero _ _).2 (by rw [h2])) h⟩
 neg x y:=by
  unfold Zmu
  by_cases h:f x=f y
  ·rw [if_pos ((hc.zero _ _).2 h),if_pos ((hc.zero _ _).2 h.symm)]
   exact hd.neg _ _
  ·rw [if_neg (fun e=>h ((hc.zero _ _).1 e)),if_neg (fun e=>h ((hc.zero _ _).1 e).symm)]
   exact hc.neg _ _
 trans x y z:=by
  unfold Zmu
  by_cases h1:f x=f y
  ·rw [if_pos ((hc.zero _ _).2 h1),h1]
   by_cases h2:c (f y) (f z)=0
   ·rw [if_pos h2,if_pos h2]
    exact hd.trans _ _ _
   ·rw [if_neg h2,if_neg h2]
    exact fun _ h=>h
  ·rw [if_neg (fun e=>h1 ((hc.zero _ _).1 e))]
   by_cases h2:f y=f z
   ·rw [if_pos ((hc.zero _ _).2 h2),← h2,if_neg (fun e=>h1 ((hc.zero _ _).1 e))]
    exact fun h _=>h
   ·rw [if_neg (fun e=>h2 ((hc.zero _ _).1 e))]
    intro h3 h4
    have h5:=hc.trans _ _ _ h3 h4
    rw [if_neg (by omega)]
    exact h5
theorem cmpInt_laws:CmpLaws Lib.compareInt where
 zero x y:=by
  unfold Lib.compareInt
  split
  ·omega
  ·split<;>omega
 neg x y:=by
  unfold Lib.compareInt
  split<;>split<;>(try split)<;>omega
 trans x y z:=by
  unfold Lib.compareInt
  intro h1 h2
  split at h1
  ·split at h2
   ·rw [if_pos (by omega)];decide
   ·split at h2<;>omega
  ·split at h1<;>omega
theorem Zea:∀ a b:List UInt8,Lib.compareBytes a b=0↔a=b
 | [],[]=>by simp [Lib.compareBytes]
 | [],_::_=>by simp [Lib.compareBytes]
 | _::_,[]=>by simp [Lib.compareBytes]
 | a::l,b::m=>by
   unfold Lib.compareBytes
   split
   ·rename_i h
    refine Iff.intro (fun h2=>absurd h2 (by decide)) (fun h2=>?_)
    have h3:a=b:=(List.cons.inj h2).1
    rw [h3] at h
    exact absurd h (UInt8.lt_irrefl _)
   split
   ·rename_i h
    refine Iff.intro (fun h2=>absurd h2 (by decide)) (fun h2=>?_)
    have h3:a=b:=(List.cons.inj h2).1
    rw [h3] at h
    exact absurd h (UInt8.lt_irrefl _)
   ·rename_i h1 h2
    rw [Zea l m]
    have:a=b:=UInt8.le_antisymm (UInt8.not_lt.1 h2) (UInt8.not_lt.1 h1)
    rw [this]
    simp
theorem ZeH:∀ a b:List UInt8,Lib.compareBytes a b<0↔0<Lib.compareBytes b a
 | [],[]=>by simp [Lib.compareBytes]
 | [],_::_=>by simp [Lib.compareBytes]
 | _::_,[]=>by simp [Lib.compareBytes]
 | a::l,b::m=>by
   unfold Lib.compareBytes
   by_cases h:a<b
   ·rw [if_pos h,if_neg (fun h2=>UInt8.lt_irrefl _ (UInt8.lt_trans h h2)),if_pos h]
    decide
   ·rw [if_neg h]
    by_cases h2:b<a
    ·rw [if_pos h2,if_pos h2]
     decide
    ·rw [if_neg h2,if_neg h2,if_neg h]
     exact ZeH l m
theorem ZdF:∀ a b c:List UInt8,Lib.compareBytes a b<0→Lib.compareBytes b c<0→Lib.compareBytes a c<0
 | _,[],[],_,h2=>by simp [Lib.compareBytes] at h2
 | [],_,_::_,_,_=>by simp [Lib.compareBytes]
 | _::_,[],_,h1,_=>by simp [Lib.compareBytes] at h1
 | _,_::_,[],_,h2=>by simp [Lib.compareBytes] at h2
 | a::l,b::m,c::n,h1,h2=>by
   unfold Lib.compareBytes at *
   by_cases hab:a<b
   ·by_cases hbc:b<c
    ·rw [if_pos (UInt8.lt_trans hab hbc)];decide
    ·rw [if_neg hbc] at h2
     by_cases hcb:c<b
     ·rw [if_pos hcb] at h2;exact absurd h2 (by decide)
     ·have:b=c:=UInt8.le_antisymm (UInt8.not_lt.1 hcb) (UInt8.not_lt.1 hbc)
      rw [if_pos (by rw [← this];exact hab)];decide
   ·rw [if_neg hab] at h1
    by_cases hba:b<a
    ·rw [if_pos hba] at h1;exact absurd h1 (by decide)
    ·have e:a=b:=UInt8.le_antisymm (UInt8.not_lt.1 hba) (UInt8.not_lt.1 hab)
     subst e
     rw [if_neg hba] at h1
     by_cases hbc:a<c
     ·rw [if_pos hbc];decide
     ·rw [if_neg hbc] at h2 ⊢
      by_cases hcb:c<a
      ·rw [if_pos hcb] at h2;exact absurd h2 (by decide)
      ·rw [if_neg hcb] at h2 ⊢
       exact ZdF l m n h1 h2
theorem cmpStr_laws:CmpLaws fun a b:ByteArray=>Lib.compareBytes a.data.toList b.data.toList where
 zero x y:=by
  rw [Zea]
  exact ⟨fun h=>by obtain ⟨⟨x⟩⟩:=x;obtain ⟨⟨y⟩⟩:=y;exact congrArg (fun l:List UInt8=>(⟨⟨l⟩⟩:ByteArray)) h,fun h=>by rw [h]⟩
 neg x y:=ZeH _ _
 trans x y z:=ZdF _ _ _
end VL
end Go.Proofs.YtpffimahajgiaaaGreatDoor
namespace Go.Proofs.YtpffimahajgiaaaGreatDoor
open VL
theorem Zmw {α:Type} {p:α→Bool} {y:α}:∀ l:List α,y ∈ l.takeWhile p→p y=true
 | [],h=>by cases h
 | x::l,h=>by
   rw [List.takeWhile_cons] at h
   by_cases hx:p x=true
   ·rw [if_pos hx] at h
    rcases List.mem_cons.1 h with rfl | h
    ·exact hx
    ·exact Zmw l h
   ·rw [if_neg hx] at h
    cases h
section
variable {α κ:Type} [DecidableEq κ] {c:κ→κ→Int} {key:α→κ}
abbrev Asc (c:κ→κ→Int) (key:α→κ) (l:List α):Prop:=l.Pairwise fun a b=>c (key a) (key b)<0
def Zig (c:κ→κ→Int) (key:α→κ) (l:List α) (x:α):List α:=match l.dropWhile (fun y=>decide (c (key y) (key x)<0)) with
 | []=>l ++ [x]
 | y::b=>if key y=key x then l else l.takeWhile (fun y=>decide (c (key y) (key x)<0))++x::y::b
omit [DecidableEq κ] in
theorem Znh (h:CmpLaws c) (a b:κ) (k:c a b<0):¬ c b a<0:=by
 have:=(h.neg a b).1 k
 omega
omit [DecidableEq κ] in
theorem ZkB (h:CmpLaws c) {a b:κ} (k:c a b<0):a≠b:=fun e=>by
 have:=(h.zero a b).2 e
 omega
theorem Zde (c:κ→κ→Int) (key:α→κ) (l:List α) (x:α):∃ A B,l=A++B∧(∀ y ∈ A,c (key y) (key x)<0)∧l.takeWhile (fun y=>decide (c (key y) (key x)<0))=A∧((B = []∧Zig c key l x=l ++ [x])∨∃ y b,B=y::b∧¬ c (key y) (key x)<0∧((key y=key x∧Zig c key l x=l)∨(¬ key y=key x∧Zig c key l x=A++x::y::b))):=by
 refine ⟨l.takeWhile (fun y=>decide (c (key y) (key x)<0)),l.dropWhile (fun y=>decide (c (key y) (key x)<0)),(List.takeWhile_append_dropWhile ..).symm,fun y hy=>?_,rfl,?_⟩
 ·exact of_decide_eq_true (p:=c (key y) (key x)<0) (Zmw (p:=fun y=>decide (c (key y) (key x)<0)) l hy)
 ·unfold Zig
  cases hd:l.dropWhile (fun y=>decide (c (key y) (key x)<0)) with
  | nil=>exact .inl ⟨rfl,rfl⟩
  | cons y b=>
    refine .inr ⟨y,b,rfl,fun hlt=>?_,?_⟩
    ·have:=List.head?_dropWhile_not (fun y=>decide (c (key y) (key x)<0)) l
     rw [hd] at this
     simp at this
     omega
    ·by_cases hq:key y=key x
     ·exact .inl ⟨hq,if_pos hq⟩
     ·exact .inr ⟨hq,if_neg hq⟩
theorem ZkC (h:CmpLaws c) {l:List α} (hl:Asc c key l) (x:α):Asc c key (Zig c key l x):=by
 obtain ⟨A,B,rfl,hA,_,⟨rfl,e⟩ | ⟨y,b,rfl,hy,⟨hk,e⟩ | ⟨hk,e⟩⟩⟩:=Zde c key l x
 ·rw [e]
  refine List.pairwise_append.2 ⟨hl,List.pairwise_singleton _ _,fun a ha b hb=>?_⟩
  rw [List.mem_singleton.1 hb]
  rw [List.append_nil] at ha
  exact hA a ha
 ·rw [e];exact hl
 ·rw [e]
  obtain ⟨p1,p2,p3⟩:=List.pairwise_append.1 hl
  obtain ⟨q1,q2⟩:=List.pairwise_cons.1 p2
  have hxy:c (key x) (key y)<0:=by
   have h0:¬ c (key y) (key x)=0:=fun e=>hk ((h.zero _ _).1 e)
   exact (h.neg _ _).2 (by omega)
  refine List.pairwise_append.2 ⟨p1,List.pairwise_cons.2 ⟨fun z hz=>?_,p2⟩,fun a ha z hz=>?_⟩
  ·rcases List.mem_cons.1 hz with rfl | hz
   ·exact hxy
   ·exact h.trans _ _ _ hxy (q1 z hz)
  ·rcases List.mem_cons.1 hz with rfl | hz
   ·exact hA a ha
   ·exact p3 a ha z hz
theorem Zni (l:List α) (x:α):(Zig c key l x).length≤l.length+1:=by
 obtain ⟨A,B,rfl,hA,_,⟨rfl,e⟩ | ⟨y,b,rfl,hy,⟨hk,e⟩ | ⟨hk,e⟩⟩⟩:=Zde c key l x
 ·rw [e];simp
 ·rw [e];omega
 ·rw [e];simp;omega
end
end Go.Proofs.YtpffimahajgiaaaGreatDoor
namespace Go.Proofs.YtpffimahajgiaaaGreatDoor
open VL Go.RowKit
open Go.Sort
theorem Zkb (a b:Int):orI [a,b]=Zmu a b:=by
 unfold orI Zmu
 split
 ·unfold orI
  split
  ·rename_i h;rw [h];rfl
  ·rfl
 ·rfl
theorem Zgp:CmpLaws Title.cmp:=by
 have h:=cmpInt_laws.lex cmpStr_laws (f:=Title.space) (g:=Title.name) (fun x y h1 h2=>by cases x;cases y;simp_all)
 have e:Title.cmp=fun x y=>Zmu (Lib.compareInt x.space y.space) (Lib.compareBytes x.name.data.toList y.name.data.toList):=by
  funext x y
  exact Zkb _ _
 rw [e]
 exact h
theorem ZdD {α:Type} {l A B:List α} {x:α} {n:Int} (h:l=A++x::B) (hn:n=(A.length:Int)):atI l n=some x:=by
 subst h hn
 unfold atI
 rw [if_pos (by omega),Int.toNat_natCast,List.getElem?_append_right (Nat.le_refl _),Nat.sub_self]
 rfl
theorem Zgq {κ:Type} [DecidableEq κ]:∀ (l r:List κ),l.Nodup→(∀ x ∈ l,x ∈ r)→l.length≤r.length
 | [],r,_,_=>Nat.zero_le _
 | x::l,r,hn,h=>by
   obtain ⟨h1,h2⟩:=List.nodup_cons.1 hn
   have hx:=h x List.mem_cons_self
   have:=Zgq l (r.erase x) h2 fun y hy=>(List.mem_erase_of_ne (fun e=>h1 (by rw [← e];exact hy))).2 (h y (List.mem_cons_of_mem _ hy))
   rw [List.length_erase_of_mem hx] at this
   have:=List.length_pos_of_mem hx
   rw [List.length_cons]
   omega
end Go.Proofs.YtpffimahajgiaaaGreatDoor
namespace Go.Proofs.YtpffimahajgiaaaGreatDoor
open VL
def ZnI {α:Type} (w:Nat) (bf:α→α→Option Bool) (eq:α→α→Bool) (p0:List α) (p1:α):Option (List α):=
 Zbf Zdy (fun f7 (x22:Int)=>
  letk (fun (x30:Bool)=>
   if x30 then
    f7 (w64 (x22+1))
   else
   letk (fun (x32:Bool)=>
    if x32 then
     (some p0:Option (List α))
    else
    (Zfx p0 0 x22).bind fun l33=>
    (Zc8 w [] l33).bind fun l34=>
    (Zc8 w l34 [p1]).bind fun l35=>
    (Zfx p0 x22 (p0.length:Int)).bind fun l36=>
    (Zc8 w l35 l36).bind fun l37=>
    (some l37:Option (List α))) fun k9=>
   if (decide (x22<(p0.length:Int))) then
    (atI p0 x22).bind fun e38=>
    k9 (eq e38 p1)
   else
   k9 false) fun k8=>
  if (decide (x22<(p0.length:Int))) then
   (atI p0 x22).bind fun e39=>
   (bf e39 p1).bind fun r40=>
   k8 r40
  else
  k8 false) 0
theorem Zj5 {α:Type} {A B:List α} {y:α} {n:Nat} (h:A.length=n):atI (A++y::B) (n:Int)=some y:=by
 unfold atI
 rw [if_pos (by omega),Int.toNat_natCast,List.getElem?_append_right (by omega),h,Nat.sub_self]
 rfl
theorem Zj6 {α κ:Type} [DecidableEq κ] {c:κ→κ→Int} {key:α→κ} (w:Nat) {bf:α→α→Option Bool} {eq:α→α→Bool} (hb:∀ a b,bf a b=some (decide (c (key a) (key b)<0))) (he:∀ a b,eq a b=decide (key a=key b)) (hw:w≤80) (l:List α) (x:α) (h:l.length≤1000000):ZnI w bf eq l x=some (Zig c key l x):=by
 obtain ⟨A,B,rfl,hA,_,hcase⟩:=Zde c key l x
 rw [List.length_append] at h
 refine ZcZ ?_
 unfold ZnI
 refine ZaH (fun i=>∃ n:Nat,i=(n:Int)∧n≤A.length) (fun i=>A.length - i.toNat) ⟨0,rfl,Nat.zero_le _⟩ (by omega) ?_
 rintro i rec ⟨n,rfl,hn⟩ ih
 have hlen:((A++B).length:Int)=(A.length:Int)+(B.length:Int):=by rw [List.length_append];omega
 refine Zar (fun q=>(n<A.length→Tot (q true) fun z=>z=Zig c key (A++B) x)∧(n=A.length→Tot (q false) fun z=>z=Zig c key (A++B) x)) ⟨fun hlt=>ZaE (fun _=>?_) (fun h=>by cases h),fun hl=>ZaE (fun h=>by cases h) fun _=>?_⟩ fun k8 hk8=>?_
 ·rw [ZaT (by omega) (by omega)]
  exact ih _ ⟨n+1,by omega,hlt⟩ (by omega)
 ·subst hl
  refine Zar (fun q=>((∃ y b,B=y::b∧key y=key x)→Tot (q true) fun z=>z=Zig c key (A++B) x)∧((∀ y b,B=y::b→¬ key y=key x)→Tot (q false) fun z=>z=Zig c key (A++B) x)) ⟨fun ⟨y,b,h1,h2⟩=>ZaE (fun _=>ZU ?_) (fun h=>by cases h),fun hno=>ZaE (fun h=>by cases h) fun _=>?_⟩ fun k9 hk9=>?_
  ·rcases hcase with ⟨rfl,_⟩ | ⟨y',b',rfl,_,⟨_,e⟩ | ⟨hk,_⟩⟩
   ·cases h1
   ·exact e.symm
   ·injection h1 with h3 h4
    subst h3
    exact absurd h2 hk
  ·have e:A++x::B=Zig c key (A++B) x:=by
    rcases hcase with ⟨rfl,e⟩ | ⟨y',b',rfl,_,⟨hk,_⟩ | ⟨_,e⟩⟩
    ·rw [e,List.append_nil]
    ·exact absurd hk (hno y' b' rfl)
    ·exact e.symm
   have s1:Zfx (A++B) 0 (A.length:Int)=some A:=by
    unfold Zfx
    rw [if_pos ⟨by omega,by omega,by omega⟩]
    simp
   have s2:Zfx (A++B) (A.length:Int) ((A++B).length:Int)=some B:=by
    unfold Zfx
    rw [if_pos ⟨by omega,by omega,by omega⟩,Int.toNat_natCast,Int.toNat_natCast,List.drop_left,List.take_of_length_le (by rw [List.length_append];omega)]
   have cap:∀ u v:List α,u.length+v.length≤1000001→Zc8 w u v=some (u++v):=fun u v h=>Zlc 1000001 h (Nat.le_trans (Nat.mul_le_mul_left _ hw) (by decide)) (by decide)
   refine ZT s1 (ZT (cap _ _ (by simp;omega)) (ZT (cap _ _ (by simp;omega)) (ZT s2 (ZT (cap _ _ (by simp;omega)) (ZU ?_)))))
   rw [← e]
   simp
  ·cases B with
   | nil=>exact ZK (fun h=>absurd h (by simp)) fun _=>hk9.2 fun y b h=>by cases h
   | cons y b=>
     refine ZK (fun _=>ZT (Zj5 rfl) ?_) fun h=>absurd (by rw [hlen,List.length_cons];omega) h
     rw [he]
     by_cases hk:key y=key x
     ·rw [decide_eq_true hk]
      exact hk9.1 ⟨y,b,rfl,hk⟩
     ·rw [decide_eq_false hk]
      refine hk9.2 fun y' b' h=>?_
      injection h with h1 h2
      rw [← h1]
      exact hk
 ·by_cases hlt:n<A.length
  ·obtain ⟨A1,y,A2,e,h1⟩:∃ A1 y A2,A=A1++y::A2∧A1.length=n:=⟨A.take n,A[n],A.drop (n+1),by rw [← List.drop_eq_getElem_cons hlt,List.take_append_drop],by rw [List.length_take];omega⟩
   refine ZK (fun _=>ZT (v:=y) (by rw [e,List.append_assoc];exact Zj5 h1) (ZT (hb y x) ?_)) fun h=>absurd (by rw [hlen];omega) h
   rw [decide_eq_true (hA y (by rw [e];simp))]
   exact hk8.1 hlt
  ·have hn2:n=A.length:=by omega
   cases B with
   | nil=>exact ZK (fun h=>absurd h (by rw [hlen];simp;omega)) fun _=>hk8.2 hn2
   | cons y b=>
     refine ZK (fun _=>ZT (Zj5 hn2.symm) (ZT (hb y x) ?_)) fun h=>absurd (by rw [hlen,List.length_cons];omega) h
     rcases hcase with ⟨h,_⟩ | ⟨y',b',h,hy,_⟩
     ·cases h
     ·injection h with h3 h4
      subst h3
      rw [decide_eq_false hy]
      exact hk8.2 hn2
abbrev cB (a b:ByteArray):Int:=Lib.compareBytes a.data.toList b.data.toList
theorem ZgP (a b:ByteArray):ltS a b=decide (cB a b<0):=by
 unfold ltS cB
 rw [ByteArray.toList_eq,ByteArray.toList_eq,Zii]
 by_cases h:Op.bytesLess a.data.toList b.data.toList=true
 ·rw [if_pos h,h];rfl
 ·rw [if_neg h,Bool.eq_false_iff.2 h]
  by_cases e:a.data.toList=b.data.toList
  ·rw [if_pos e];rfl
  ·rw [if_neg e];rfl
theorem ZnA:ZdS=ZnI 16 (fun a b=>some (ltS a b)) (fun e x=>decide (e=x)):=by
 funext p0 p1
 unfold ZdS ZnI
 simp only [Option.bind_some]
theorem Zk2 (l:List ByteArray) (t:ByteArray) (h:l.length≤1000000) (hl:Asc cB (fun x=>x) l):Tot (ZdS l t) fun r=>(Asc cB (fun x=>x) r∧l.length≤r.length)∧∀ x ∈ r,x ∈ l∨x=t:=by
 refine ⟨Zig cB (fun x=>x) l t,?_,⟨ZkC cmpStr_laws hl t,?_⟩,?_⟩
 ·rw [ZnA]
  exact Zj6 (key:=fun x:ByteArray=>x) 16 (fun a b=>congrArg some (ZgP a b)) (fun _ _=>rfl) (by decide) l t h
 all_goals
  obtain ⟨A,B,hl,_,_,hc⟩:=Zde cB (fun x=>x) l t
 ·rcases hc with ⟨_,e⟩ | ⟨y,b,hB,_,⟨_,e⟩ | ⟨_,e⟩⟩
  ·rw [e];simp
  ·rw [e];exact Nat.le_refl _
  ·rw [e,hl,hB];simp
 ·intro x hx
  rcases hc with ⟨_,e⟩ | ⟨y,b,hB,_,⟨_,e⟩ | ⟨_,e⟩⟩
  ·rw [e] at hx
   simpa using hx
  ·rw [e] at hx
   exact .inl hx
  ·rw [e] at hx
   rw [hl,hB]
   simp only [List.mem_append,List.mem_cons] at hx ⊢
   rcases hx with h | h | h | h
   ·exact .inl (.inl h)
   ·exact .inr h
   ·exact .inl (.inr (.inl h))
   ·exact .inl (.inr (.inr h))
theorem Zk3 (g:Group) (u:ByteArray) (L:List ByteArray) (hu:u.size≤4611686018427387904) (hm:g.members.length≤1000000):Tot (Zck g u L) fun _=>True:=by
 unfold Zck
 refine ZaH (fun i=>0≤i∧i≤(g.members.length:Int)) (fun i=>g.members.length - i.toNat) ⟨by omega,by omega⟩ (by omega) ?_
 rintro i rec ⟨h0,h1⟩ ih
 refine ZK (fun hlt=>?_) fun _=>ZU trivial
 refine ZaX h0 hlt fun e _ _=>?_
 refine Zar (fun q=>∀ b,Tot (q b) fun _=>True) (fun b=>ZaE (fun _=>ZU trivial) fun _=>?_) fun k hk=>?_
 ·rw [ZaT (by omega) (by omega)]
  exact ih _ ⟨by omega,by omega⟩ (by omega)
 have hn:ZcF u=some (Zao u):=if_pos hu
 have ha:Tot (if (decide (0<(e.size:Int)))=true then (atS e 0).bind fun c=>if (decide (c=64))=true then (ZlJ e 1 (e.size:Int)).bind fun l=>(ZgI L l).bind fun r=>k r else k false else k false) fun _=>True:=by
  refine ZK (fun hp=>Zm7 (by omega) hp fun c _ _ _=>?_) fun _=>hk _
  refine ZK (fun _=>ZlW (by omega) (by omega) (by omega) fun m _ _=>?_) fun _=>hk _
  exact ZT (v:=Zkr L m) rfl (hk _)
 refine ZT hn (ZaE (fun _=>ZK (fun _=>hk _) fun _=>ha) fun _=>ha)
theorem ZjD (P:Policy) (u:ByteArray) (hu:u.size≤4611686018427387904) (hg:P.groups.length≤100000) (hm:∀ g ∈ P.groups,g.members.length≤1000000):Tot (ZcE P u) fun r=>Asc cB (fun x=>x) r∧∀ y ∈ r,y ∈ (⟨#[97,108,108]⟩:ByteArray)::⟨#[117,115,101,114,115]⟩::P.groups.map Group.name:=by
 have key:∀ l:List ByteArray,Asc cB (fun x=>x) l→(∀ x ∈ l,x ∈ (⟨#[97,108,108]⟩:ByteArray)::⟨#[117,115,101,114,115]⟩::P.groups.map Group.name)→l.length≤P.groups.length+2:=fun l h1 h2=>by
  have h:=Zgq l _ (h1.imp fun h=>ZkB cmpStr_laws h) h2
  simpa using h
 have hA:Asc cB (fun x=>x) [(⟨#[97,108,108]⟩:ByteArray)]:=List.pairwise_singleton _ _
 unfold ZcE
 refine ZT (if_pos hu) ?_
 refine Zar (fun q=>∀ x,Asc cB (fun x=>x) x→(∀ y ∈ x,y ∈ (⟨#[97,108,108]⟩:ByteArray)::⟨#[117,115,101,114,115]⟩::P.groups.map Group.name)→Tot (q x) (fun r=>Asc cB (fun x=>x) r∧∀ y ∈ r,y ∈ (⟨#[97,108,108]⟩:ByteArray)::⟨#[117,115,101,114,115]⟩::P.groups.map Group.name)) (fun x a1 a2=>?_) fun k hk=>ZaE (fun _=>ZG (Zk2 _ _ (by simp) hA) fun r hr=>?_) fun _=>?_
 ·refine ZaH (fun s=>(Asc cB (fun x=>x) s.1∧(∀ y ∈ s.1,y ∈ (⟨#[97,108,108]⟩:ByteArray)::⟨#[117,115,101,114,115]⟩::P.groups.map Group.name))∧-1≤s.2∧s.2≤(s.1.length:Int)) (fun s=>P.groups.length+3 - (s.2+1).toNat) ⟨⟨a1,a2⟩,by dsimp only;omega,by dsimp only;omega⟩ (by dsimp only;omega) ?_
  rintro ⟨x,n⟩ rec ⟨⟨b1,b2⟩,b3,b4⟩ ih
  dsimp only at b1 b2 b3 b4 ih ⊢
  have hx:=key x b1 b2
  refine ZK (fun hlt=>?_) fun _=>ZU ⟨b1,b2⟩
  refine ZaH (fun s=>(Asc cB (fun x=>x) s.1∧(∀ y ∈ s.1,y ∈ (⟨#[97,108,108]⟩:ByteArray)::⟨#[117,115,101,114,115]⟩::P.groups.map Group.name))∧x.length≤s.1.length∧0≤s.2∧s.2≤(P.groups.length:Int)) (fun s=>P.groups.length - s.2.toNat) ⟨⟨b1,b2⟩,Nat.le_refl _,by dsimp only;omega,by dsimp only;omega⟩ (by dsimp only;omega) ?_
  rintro ⟨y,j⟩ rec2 ⟨⟨d1,d2⟩,d3,d4,d5⟩ ih2
  dsimp only at d1 d2 d3 d4 d5 ih2 ⊢
  have hy:=key y d1 d2
  refine ZK (fun hj=>?_) fun _=>ih _ ⟨⟨d1,d2⟩,by dsimp only;omega,by dsimp only;omega⟩ (by dsimp only;omega)
  refine Zar (fun q=>∀ z,Asc cB (fun x=>x) z→(∀ a ∈ z,a ∈ (⟨#[97,108,108]⟩:ByteArray)::⟨#[117,115,101,114,115]⟩::P.groups.map Group.name)→x.length≤z.length→Tot (q z) (fun r=>Asc cB (fun x=>x) r∧∀ y ∈ r,y ∈ (⟨#[97,108,108]⟩:ByteArray)::⟨#[117,115,101,114,115]⟩::P.groups.map Group.name)) (fun z z1 z2 z3=>?_) fun k2 hk2=>?_
  ·rw [ZaT (by omega) (by omega)]
   exact ih2 _ ⟨⟨z1,z2⟩,z3,by dsimp only;omega,by dsimp only;omega⟩ (by dsimp only;omega)
  ·refine ZaX d4 hj fun e he hee=>ZG (Zk3 e u y hu (hm e he)) fun r _=>ZaE (fun _=>?_) fun _=>hk2 _ d1 d2 d3
   refine ZaX d4 hj fun e2 he2 _=>ZG (Zk2 y e2.name (by omega) d1) fun r hr=>hk2 _ hr.1.1 (fun a ha=>?_) (by omega)
   rcases hr.2 a ha with h | h
   ·exact d2 a h
   ·rw [h]
    exact List.mem_cons_of_mem _ (List.mem_cons_of_mem _ (List.mem_map.2 ⟨e2,he2,rfl⟩))
 ·refine hk _ hr.1.1 fun y hy=>?_
  rcases hr.2 y hy with h | h
  ·rw [List.mem_singleton.1 h];exact List.mem_cons_self ..
  ·rw [h];exact List.mem_cons_of_mem _ (List.mem_cons_self ..)
 ·exact hk _ hA fun y hy=>by rw [List.mem_singleton.1 hy];exact List.mem_cons_self ..
theorem ZmO (s:TapeF) (L:List ByteArray) (hs:s.ok) (h:(decide (0<L.length)&&L.all fun x=>decide (x.size≤18))=true):Tot (ZW s L) fun r=>r.1.size≤18∧r.2.ok:=by
 rw [Bool.and_eq_true] at h
 exact Znf s L hs (of_decide_eq_true h.1) fun x hx=>of_decide_eq_true (List.all_eq_true.1 h.2 x hx)
theorem ZmP (s:TapeF) (L:List ByteArray) (hs:s.ok) (h0:0<L.length):Tot (ZW s L) fun r=>r.2.ok:=by
 unfold ZW
 refine ZG (Zaa s _ hs (by omega)) fun r hr=>?_
 exact ZaX hr.1.1 hr.1.2 fun e he _=>ZU hr.2
def PCm:Nat→Nat
 | 0=>10
 | n+1=>100+3 * PCm n
set_option maxHeartbeats 4000000 in
theorem ZiK:∀ (m:Nat) (s:TapeF) (d:Nat),d<m→d≤2→s.ok→Tot (Zad m s (d:Int)) fun r=>r.1.size≤PCm d∧r.2.ok
 | 0,_,_,h,_,_=>absurd h (Nat.not_lt_zero _)
 | m+1,s,0,_,_,hs=>by
   unfold Zad
   refine ZK (fun _=>?_) fun h=>absurd (by decide) h
   exact ZG (Zmv s hs) fun r hr=>ZU hr
 | m+1,s,d+1,hm,hd,hs=>by
   have ih:∀ s:TapeF,s.ok→Tot (Zad m s (d:Int)) fun r=>r.1.size≤PCm d∧r.2.ok:=fun s hs=>ZiK m s d (by omega) (by omega) hs
   have hw:w64 (((d+1:Nat):Int) - 1)=(d:Int):=by rw [ZaT (by omega) (by omega)];omega
   have hB:10≤PCm d∧PCm d≤10000:=by
    have:d=0∨d=1:=by omega
    rcases this with rfl | rfl<;>decide
   have hP:PCm (d+1)=100+3 * PCm d:=rfl
   rw [hP]
   generalize PCm d=B at ih hB
   unfold Zad
   refine ZK (fun h=>absurd h (by omega)) fun _=>?_
   simp only [hw]
   refine ZG (Zaa s 24 hs (by decide)) fun r3 h3=>?_
   obtain ⟨_,h3⟩:=h3
   repeat' (refine ZK (fun _=>?_) fun _=>?_)
   all_goals (repeat (first
    | (refine ZoP (by first | assumption | exact (show _≤14 by decide)) (by first | assumption | exact (show _≤14 by decide)) (by omega) fun _=>?_)
    | (refine ZG (ih _ (by assumption)) fun r hr=>?_;obtain ⟨_,_⟩:=hr)
    | (refine ZG (ZmO _ _ (by assumption) (by decide)) fun r hr=>?_;obtain ⟨_,_⟩:=hr)
    | (refine ZG (Zmv _ (by assumption)) fun r hr=>?_;obtain ⟨_,_⟩:=hr)
    | (refine ZG (Znf (n:=60) _ _ (by assumption) (by simp) fun x hx=>by
      simp only [List.mem_cons,List.not_mem_nil,or_false] at hx
      rcases hx with rfl | rfl | rfl | rfl | rfl | rfl | rfl | rfl | rfl | rfl<;>first | decide | omega) fun r hr=>?_;obtain ⟨_,_⟩:=hr)))
   all_goals exact ZU ⟨by dsimp only;omega,by assumption⟩
theorem ZmQ (s:TapeF) (hs:s.ok):Tot (ZbR s 2) fun r=>r.1.size≤1500∧r.2.ok:=by
 unfold ZbR
 have hB:PCm 2=490:=rfl
 refine ZG (Zl7 _ _ hs (by decide)) fun r1 h1=>?_
 obtain ⟨h1,h2⟩:=h1
 refine ZaH (fun x=>(0≤x.2.1∧x.2.1≤3)∧(x.1.size:Int)≤30+490 * x.2.1∧TapeF.ok ⟨x.2.2.1,x.2.2.2⟩) (fun x=>4 - x.2.1.toNat) ⟨⟨by simp,by simp⟩,by simp;omega,h2⟩ (by dsimp only;omega) ?_
 rintro ⟨t,i,l,p⟩ rec ⟨⟨g0,g1⟩,g2,g3⟩ ih
 dsimp only at g0 g1 g2 g3 ih ⊢
 refine ZG (Zaa _ 3 g3 (by decide)) fun r35 h35=>?_
 obtain ⟨⟨k0,k1⟩,k2⟩:=h35
 refine ZK (fun hle=>?_) fun _=>ZU ⟨by dsimp only;omega,k2⟩
 refine ZG (ZiK 8 r35.2 2 (by decide) (by decide) k2) fun r38 h38=>?_
 obtain ⟨q1,q2⟩:=h38
 refine Zb4 (by omega) fun hz=>?_
 rw [ZaT (by omega) (by omega)]
 exact ih _ ⟨⟨by dsimp only;omega,by dsimp only;omega⟩,by dsimp only;omega,q2⟩ (by dsimp only;omega)
theorem ZmR (s:TapeF) (hs:s.ok):Tot (ZbS s 2) fun r=>r.1.size≤8192∧r.2.ok:=by
 unfold ZbS
 refine ZG (Zl7 _ _ hs (by decide)) fun r1 h1=>?_
 obtain ⟨h1,h2⟩:=h1
 refine ZG (Zaa _ 5 h2 (by decide)) fun r2 h2=>?_
 obtain ⟨⟨k0,k1⟩,k2⟩:=h2
 refine ZaH (fun x=>(0≤x.2.1∧x.2.1≤5)∧(x.1.size:Int)≤30+1600 * x.2.1∧TapeF.ok ⟨x.2.2.1,x.2.2.2⟩) (fun x=>6 - x.2.1.toNat) ⟨⟨by simp,by simp⟩,by simp;omega,k2⟩ (by dsimp only;omega) ?_
 rintro ⟨t,i,l,p⟩ rec ⟨⟨g0,g1⟩,g2,g3⟩ ih
 dsimp only at g0 g1 g2 g3 ih ⊢
 refine ZK (fun hle=>?_) fun _=>ZU ⟨by dsimp only;omega,g3⟩
 refine Zar (fun q=>∀ x:ByteArray,(x.size:Int)≤40+1600 * i→Tot (q x) (fun r=>r.1.size≤8192∧r.2.ok)) (fun x hx=>?_) fun k21 hk21=>?_
 ·refine ZG (Zaa _ 4 g3 (by decide)) fun r232 h232=>?_
  obtain ⟨_,k3⟩:=h232
  refine Zar (fun q=>∀ (y:ByteArray) (l:List Int) (p:Int),(y.size:Int)≤100+1600 * i→TapeF.ok ⟨l,p⟩→Tot (q y l p) (fun r=>r.1.size≤8192∧r.2.ok)) (fun y l p hy hlp=>?_) fun k22 hk22=>?_
  ·refine ZG (ZmQ _ hlp) fun r242 h242=>?_
   obtain ⟨z1,z2⟩:=h242
   refine Zb4 (by omega) fun hz=>?_
   rw [ZaT (by omega) (by omega)]
   exact ih _ ⟨⟨by dsimp only;omega,by dsimp only;omega⟩,by dsimp only;omega,z2⟩ (by dsimp only;omega)
  ·refine ZK (fun _=>?_) fun _=>hk22 _ _ _ (by omega) k3
   refine ZG (ZmO _ _ k3 (by decide)) fun r244 h244=>?_
   obtain ⟨z1,z2⟩:=h244
   refine Zb4 (by omega) fun hz=>?_
   refine ZG (ZmO _ _ z2 (by decide)) fun r246 h246=>?_
   obtain ⟨z3,z4⟩:=h246
   refine Zb4 (by omega) fun hz2=>Zb4 (by omega) fun hz3=>?_
   have e1:(⟨#[10]⟩:ByteArray).size=1:=rfl
   refine Zb4 (by omega) fun hz4=>?_
   exact hk22 _ _ _ (by omega) z4
 ·have e1:(⟨#[10]⟩:ByteArray).size=1:=rfl
  refine ZK (fun _=>?_) fun _=>hk21 _ (by omega)
  exact Zb4 (by omega) fun hz=>hk21 _ (by omega)
theorem Zlx (s:TapeF) (hs:s.ok):Tot (ZaK s) fun r=>r.2.ok:=by
 unfold ZaK
 refine ZG (Zaa _ 6 hs (by decide)) fun r hr=>ZG (ZmP _ _ hr.2 (by simp)) fun r2 hr2=>ZU hr2
theorem ZmS (s:TapeF) (hs:s.ok):Tot (Zaw s) fun r=>(r.1.space=0∧r.1.name.size≤30)∧r.2.ok:=by
 unfold Zaw
 refine ZG (Zl7 _ _ hs (by decide)) fun r hr=>ZU ⟨⟨rfl,hr.1⟩,hr.2⟩
theorem ZmT (s:TapeF) (hs:s.ok):Tot (ZbM s) fun r=>r.1.size≤30∧r.2.ok:=by
 unfold ZbM
 exact ZG (Zl7 _ _ hs (by decide)) fun r hr=>ZU hr
theorem ZjV:Zc5=ZnI 24 (fun a b=>(ZcA a b).bind fun x=>some (decide (x<0))) (fun e x=>decide (e=x)):=by
 funext p0 p1
 unfold Zc5 ZnI
 simp only [Option.bind_assoc,Option.bind_some]
theorem ZmU (l:List Title) (t:Title) (h:l.length≤1000000):Tot (Zc5 l t) fun r=>r.length≤l.length+1∧∀ x ∈ r,x ∈ l∨x=t:=by
 refine ⟨Zig Title.cmp (fun x=>x) l t,?_,?_,?_⟩
 ·rw [ZjV]
  exact Zj6 (key:=fun x:Title=>x) 24 (fun a b=>rfl) (fun _ _=>rfl) (by decide) l t h
 ·exact Zni l t
 ·obtain ⟨A,B,hl,_,_,hc⟩:=Zde Title.cmp (fun x=>x) l t
  intro x hx
  rcases hc with ⟨_,e⟩ | ⟨y,b,hB,_,⟨_,e⟩ | ⟨_,e⟩⟩
  ·rw [e] at hx
   simpa using hx
  ·rw [e] at hx
   exact .inl hx
  ·rw [e] at hx
   rw [hl,hB]
   simp only [List.mem_append,List.mem_cons] at hx ⊢
   rcases hx with h | h | h | h
   ·exact .inl (.inl h)
   ·exact .inr h
   ·exact .inl (.inr (.inl h))
   ·exact .inl (.inr (.inr h))
end Go.Proofs.YtpffimahajgiaaaGreatDoor
