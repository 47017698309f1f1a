/- Functions of the program as Lean functions. Written by fxgen.py. | What own and templates find in inert trees; links.Own where few links are found. | LinksHidden's second text; what the tests on strings say of bytes. | Functions of the program as Lean functions. Written by fxgen.py. | The first example of the chapter. | strings.IndexRune at a rune that is no ASCII, in a string of ASCII bytes: -1. | strings.ContainsAny at strings of any bytes and ASCII chars. | Functions of the program as Lean functions. Written by fxgen.py. | LinksHidden: the law. | From a reading of an argument to the words of the walks: structs field by field, slices element by element. No program is named. | Readings of the wiki's types at this translation. Written by types.py. | Lists of integers; the invariant in all later worlds, where no rules of edit are laid. | LinksHidden in worlds: whatever the lists and the numbers, the law returns true. -/
import Derived.Test.YtmgfammllddkhaaGreatDoorCH15
import Derived.Test.YtmgfammllddkhaaGreatDoorCH16
import Derived.Test.YtmgfammllddkhaaGreatDoorCH17
import Derived.Test.YtmgfammllddkhaaGreatDoorCH06
import Derived.Test.YtmgfammllddkhaaGreatDoorCH01
import Derived.Test.YtmgfammllddkhaaGreatDoorCH04
import Derived.Lib.MapLaws
import Derived.WalkMore
import Derived.Deep.QuietTactic
import Derived.BigQuiet
import Derived.ProofKit
import Derived.OpenShut
import Derived.Deep.Slices
import Derived.Deep.Strs
import Derived.Test.YtmgfammllddkhaaGreatDoorRows
import Derived.Test.YtmgfammllddkhaaGreatDoorCH03
import Derived.Test.YtmgfammllddkhaaGreatDoorCH02
import Derived.Test.YtmgfammllddkhaaGreatDoorCH05
import Derived.MakeChecks
import Derived.FnData
import Derived.ChangeSame
set_option linter.unusedVariables false
set_option maxHeartbeats 4000000
set_option maxRecDepth 100000
namespace Go.Proofs.YtmgfammllddkhaaGreatDoor
open VL
def Zct (p0:ByteArray):Option ((List Link)×(List Memb)×Int):=
 (ZbV p0).bind fun r1=>
 if (!decide (r1.2=0)) then
  (some ([],[],r1.2):Option ((List Link)×(List Memb)×Int))
 else
 (ZaV 64 (⟨([]:List Link),([]:List Memb)⟩:Finder) r1.1).bind fun r2=>
 (ZF 64 r2 r1.1).bind fun r3=>
 (ZbK p0).bind fun r4=>
 letk (fun (x6:List Link)=>
  (ZaU x6).bind fun r7=>
  (Zau r3.members).bind fun r8=>
  (Zaz r8).bind fun r9=>
  (Za1 r7).bind fun r10=>
  (some (r10,r9,0):Option ((List Link)×(List Memb)×Int))) fun k1=>
 if r4.2 then
  (ZjH 32 r3.links [(⟨4,r4.1⟩:Link)]).bind fun l11=>
  k1 l11
 else
 k1 r3.links
theorem ZfV (p0:ByteArray) (r:(List Link)×(List Memb)×Int) (h:Zct p0=some r):ZH Tryz.prog 11 [.str p0] (.tup [.sl (List.map Link.cs r.1),.sl (List.map Memb.cs r.2.1),.int .i64 r.2.2]):=by
 refine cF (fun r=>.tup [.sl (List.map Link.cs r.1),.sl (List.map Memb.cs r.2.1),.int .i64 r.2.2]) h mix Tryz.func11 fun r h=>?_
 unfold Zct at h
 refine ZW ?_
 refine rg ?_
 refine rg ?_
 refine aC h (ZjX _) fun r1 h=>?_
 refine rg ?_
 refine cS h rfl (fun h=>?_) fun h=>?_
 ·refine rg ?_
  cases h
  exact rQ
 refine rg ?_
 refine ZaF (Zce 20 3000 0 42 3 rfl rfl rfl) (ZW ?_) (List.cons_ne_nil _ _)
 refine ZaF (Zce 20 3001 1 45 3 rfl rfl rfl) (ZW ?_) (List.cons_ne_nil _ _)
 refine rg ?_
 obtain ⟨r2,h2,h⟩:=bnd h
 refine Zf1 (ZgB 64 _ _ _ h2) rfl rfl rfl rfl rfl rfl rfl rfl (ZW ?_)
 refine rg ?_
 obtain ⟨r3,h3,h⟩:=bnd h
 refine Zf1 (Zes 64 _ _ _ h3) rfl rfl rfl rfl rfl rfl rfl rfl (ZW ?_)
 refine rg ?_
 refine aC h (ZhA _) fun r4 h=>?_
 refine rg ?_
 refine jL h (fun x6=>mkS [(7,.ptr 20 (1,20) 0)] [(20,some ((1,20),.box [.row 3000 (1,3000),.row 3001 (1,3001)])),(3000,some ((1,3000),.row 42 3 false (List.map Link.cs x6))),(3001,some ((1,3001),.row 45 3 false (List.map Memb.cs r3.members)))] 2) (fun k1 h=>?_) fun x6 h=>?_
 ·refine cS h rfl (fun h=>?_) fun h=>?_
  ·refine rg ?_
   refine Zcp (M:=([(⟨4,r4.1⟩:Link)]:List Link)) (f:=Link.cs) rfl rfl rfl rfl (Nat.le_of_ble_eq_true rfl) rfl (ZW ?_)
   refine pR Link.cs h fun l11 h=>?_
   exact jn l11 h (sR [(20,4,1),(3000,11,8),(3001,8,2000002)])
  exact jn r3.links h (sR [(20,4,1),(3000,8,1000002),(3001,8,2000002)])
 refine rg ?_
 obtain ⟨r7,h6,h⟩:=bnd h
 refine Zcf (Ze1 _ _ h6) rfl rfl rfl rfl rfl (ZW ?_)
 refine rg ?_
 obtain ⟨r8,h7,h⟩:=bnd h
 refine Zcf (Zcm _ _ h7) rfl rfl rfl rfl rfl (ZW ?_)
 refine rg ?_
 obtain ⟨r9,h8,h⟩:=bnd h
 refine ZoR (ZcO _ _ h8) rfl rfl rfl rfl (ZW ?_)
 refine rg ?_
 obtain ⟨r10,h9,h⟩:=bnd h
 refine ZoR (Zfd _ _ h9) rfl rfl rfl rfl (ZW ?_)
 cases h
 exact rQ
theorem ZdC {α β:Type} {step:β→α→Option β} {c:β}:∀ {l:List α},(∀ x ∈ l,step c x=some c)→ZfE step l c=some c
 | [],_=>rfl
 | x::l,h=>by
   show (step c x).bind (fun c'=>ZfE step l c')=_
   rw [h x (by simp)]
   exact ZdC fun y hy=>h y (List.mem_cons_of_mem _ hy)
def ZsH (n:Node):Prop:=n.kind=1∧n.kids = []∧n.args = []
theorem ZqA {l:List (List PV)} (h:TN l):∃ xs:List Node,Za6 l=some xs∧xs.length=l.length∧∀ n ∈ xs,ZsH n:=by
 induction l with
 | nil=>exact ⟨[],rfl,rfl,fun n hn=>by cases hn⟩
 | cons c l ih=>
   obtain ⟨s,rfl⟩:=h c (by simp)
   obtain ⟨xs,h1,h2,h3⟩:=ih fun c hc=>h c (List.mem_cons_of_mem _ hc)
   refine ⟨⟨1,0,s,[],[]⟩::xs,?_,by simp [h2],fun n hn=>?_⟩
   ·have e:=Zcj h1
    rw [e]
    exact Ziv (⟨1,0,s,[],[]⟩::xs)
   ·rcases List.mem_cons.1 hn with rfl | hn
    ·exact ⟨rfl,rfl,rfl⟩
    ·exact h3 n hn
theorem ZpQ (m:Nat) (f:Finder):ZF (m+1) f []=some f:=Zka (by simp) rfl
theorem ZgW {m:Nat} {f:Finder} {n:Node} (hk:n.kind≠4) (h1:n.kids = []) (h2:n.args = []):ZdY (m+1) f n=some f:=by
 unfold ZdY
 split
 ·rfl
 ·unfold ZhN
  rw [if_neg hk,h1,h2]
  show ((some []:Option (List Node)).bind fun l=>(ZF (m+1) f l).bind fun f=>(Zhq []).bind fun l=>if l.length≤4611686018427387900 then ZfE (ZeL (m+1)) l f else none)=_
  show ((ZF (m+1) f []).bind fun f=>(Zhq []).bind fun l=>if l.length≤4611686018427387900 then ZfE (ZeL (m+1)) l f else none)=_
  rw [ZpQ]
  rfl
theorem Zij {m:Nat} {f:Finder} {l:List Node} (hl:l.length≤4611686018427387900) (h:∀ n ∈ l,ZsH n):ZF (m+2) f l=some f:=
 Zka hl (ZdC fun n hn=>ZgW (by rw [(h n hn).1];decide) (h n hn).2.1 (h n hn).2.2)
theorem ZqB {s:ByteArray} {l:List Node} {f1 f2:Finder} {t:Title} {L L2:List Link} {M M2:List Memb} (h1:ZbV s=some (l,0)) (h2:ZaV 64 ⟨[],[]⟩ l=some f1) (h3:ZF 64 f1 l=some f2) (h4:ZbK s=some (t,false))
  (h5:ZaU f2.links=some L) (h6:Zau f2.members=some M) (h7:Zaz M=some M2) (h8:Za1 L=some L2):Zct s=some (L2,M2,0):=by
 refine ZcS ?_
 unfold Zct
 refine ZE h1 (ZlF (fun h=>absurd rfl h) fun _=>ZE h2 (ZE h3 (ZE h4 (ZbO ?_))))
 refine ZcZ (fun h=>by cases h) fun _=>?_
 exact ZE h5 (ZE h6 (ZE h7 (ZE h8 (Zah rfl))))
theorem ZqC:ZaU []=some []∧Zau []=some []∧Zaz []=some []∧Za1 []=some []:=by
 refine ⟨?_,?_,?_,?_⟩<;>kernel_rfl
theorem Zr1 (c:UInt8) (r:List UInt8) (hc:c≠35):ZbK (bs (c::r))=some (⟨0,⟨#[]⟩⟩,false):=by
 refine ZcS ?_
 unfold ZbK Zbw ZaK
 have hp:ZX (bs (c::r)) ⟨#[35,82,69,68,73,82,69,67,84]⟩=some false:=by
  have:=Zhv (c::r) [35,82,69,68,73,82,69,67,84]
  rw [show ([35,82,69,68,73,82,69,67,84]:List UInt8).isPrefixOf (c::r)=false from by
   show (35 == c&&_)=false
   rw [show (35 == c)=false from by rw [beq_eq_false_iff_ne];exact fun h=>hc h.symm]
   rfl] at this
  exact this
 rw [hp]
 exact ZE (v:=(bs (c::r),false)) rfl (ZcZ (fun _=>Zah rfl) fun h=>by cases h)
theorem ZpR (s:List UInt8) (h60:∀ c ∈ s,c≠60) (hc:∀ j,j≤s.length→Lib.occAt s cmtE j=false) (hs:s.length≤400):Zct (bs (Zph s))=some ([],[],0):=by
 obtain ⟨x,y,kids,hp⟩:=Zng s h60 hc hs
 obtain ⟨q1,q2,q3,q4⟩:=ZqC
 refine ZqB (f1:=⟨[],[]⟩) (f2:=⟨[],[]⟩) (t:=⟨0,⟨#[]⟩⟩) hp ?_ ?_ ?_ q1 q2 q3 q4
 ·rw [Zmj _ _ _ (by simp)]
  refine ZdC fun n hn=>?_
  simp only [List.mem_cons,List.not_mem_nil,or_false] at hn
  rcases hn with rfl | rfl | rfl
  ·rfl
  ·rfl
  ·show (if (6:Int)=1 then _ else if (6:Int)=6∧¬ (2:Int)=2 then _ else some _)=_
   rw [if_neg (by decide),if_neg (by decide)]
 ·refine Zka (by simp) (ZdC fun n hn=>?_)
  simp only [List.mem_cons,List.not_mem_nil,or_false] at hn
  rcases hn with rfl | rfl | rfl
  ·exact ZgW (show (2:Int)≠4 by decide) rfl rfl
  ·exact ZgW (show (3:Int)≠4 by decide) rfl rfl
  ·show (if (6:Int)=6∧(2:Int)=2 then _ else _)=_
   rw [if_pos ⟨rfl,rfl⟩]
 ·exact Zr1 60 _ (by decide)
theorem Zr2:ZaU [⟨2,⟨0,⟨#[81]⟩⟩⟩]=some [⟨2,⟨0,⟨#[81]⟩⟩⟩]∧Za1 [⟨2,⟨0,⟨#[81]⟩⟩⟩]=some [⟨2,⟨0,⟨#[81]⟩⟩⟩]:=by
 refine ⟨?_,?_⟩<;>kernel_rfl
theorem Zsx:ZbL [⟨1,0,⟨#[58,81]⟩,[],[]⟩]=some (⟨0,⟨#[81]⟩⟩,true):=by kernel_rfl
theorem Zq8 {m:Nat} {f:Finder} {l:List Arg} (h:∀ a ∈ l,TA a) (hl:∀ a ∈ l,a.name.length≤4611686018427387900∧a.value.length≤4611686018427387900):ZfE (ZeL (m+2)) l f=some f:=by
 refine ZdC fun a ha=>?_
 obtain ⟨h1,h2⟩:=h a ha
 obtain ⟨xs,q1,q2,q3⟩:=ZqA h1
 obtain ⟨ys,p1,p2,p3⟩:=ZqA h2
 unfold ZeL
 rw [q1]
 show (ZF (m+2) f xs).bind _=_
 rw [Zij (by rw [q2];exact (hl a ha).1) q3]
 show (Za6 a.value).bind _=_
 rw [p1]
 exact Zij (by rw [p2];exact (hl a ha).2) p3
theorem ZnW:∀ {l:List Arg} {w:Nat},LW true w (l.map Arg.cs)→l.length≤w∧∀ a ∈ l,a.name.length≤w∧a.value.length≤w
 | [],w,_=>⟨Nat.zero_le _,fun a h=>by cases h⟩
 | a::l,w,h=>by
   obtain ⟨a',wn,wv,wl,e,h1,h2,h3,h4⟩:=LW.arg_inv (show LW true w (a.cs::l.map Arg.cs) from h)
   have e':=Zly e
   subst e'
   obtain ⟨q1,q2⟩:=ZnW h4
   have n1:=h2.len
   have n2:=h3.len
   refine ⟨by simp only [List.length_cons];omega,fun b hb=>?_⟩
   rcases List.mem_cons.1 hb with rfl | hb
   ·omega
   ·have:=q2 b hb
    omega
theorem ZpB (s:List UInt8) (h:Zno s) (hs:s.length≤400):Zct (bs (ZiU s))=some ([⟨2,⟨0,⟨#[81]⟩⟩⟩],[],0):=by
 obtain ⟨args,ha,hp⟩:=Zmy s h hs
 have hlen:(ZiU s).length=7+s.length:=by unfold ZiU;simp;omega
 obtain ⟨l,hl,hw⟩:=ZiF (ZiU s) (by omega)
 rw [hp] at hl
 injection hl with hl
 injection hl with hl _
 subst hl
 obtain ⟨wk,wa,w1,w2,w3⟩:=hw.node1
 obtain ⟨a1,a2⟩:=ZnW w3
 obtain ⟨q1,q2,q3,q4⟩:=ZqC
 obtain ⟨p1,p2⟩:=Zr2
 refine ZqB (f1:=⟨[],[]⟩) (f2:=⟨[⟨2,⟨0,⟨#[81]⟩⟩⟩],[]⟩) (t:=⟨0,⟨#[]⟩⟩) hp ?_ ?_ ?_ p1 q2 q3 p2
 ·rw [Zmj _ _ _ (by simp)]
  rfl
 ·refine Zka (by simp) ?_
  have hd:Za6 (txt [58,81])=some [⟨1,0,⟨#[58,81]⟩,[],[]⟩]:=rfl
  have hda:Zhq (args.map Arg.cs)=some args:=Zm2 args
  have hs:ZdY 63 ⟨[],[]⟩ ⟨4,0,⟨#[]⟩,txt [58,81],args.map Arg.cs⟩=some ⟨[⟨2,⟨0,⟨#[81]⟩⟩⟩],[]⟩:=by
   unfold ZdY ZhN
   dsimp only
   rw [if_neg (by decide),if_pos rfl,hd,hda]
   dsimp only [Option.bind_some]
   rw [Zsx]
   dsimp only [Option.bind_some]
   rw [if_pos rfl]
   show ((ZF 63 ⟨[⟨2,⟨0,⟨#[81]⟩⟩⟩],[]⟩ [⟨1,0,⟨#[58,81]⟩,[],[]⟩]).bind fun f=>if args.length≤4611686018427387900 then ZfE (ZeL 63) args f else none)=_
   rw [Zij (m:=61) (by simp) (fun n hn=>by rw [List.mem_singleton.1 hn];exact ⟨rfl,rfl,rfl⟩)]
   show (if args.length≤4611686018427387900 then ZfE (ZeL 63) args _ else none)=_
   rw [if_pos (by omega)]
   exact Zq8 (m:=61) ha fun a h=>by have:=a2 a h;omega
  show (ZdY 63 ⟨[],[]⟩ _).bind _=_
  rw [hs]
  rfl
 ·exact Zr1 123 _ (by decide)
theorem Zic {s sub:List UInt8} (h:Lib.contains s sub=false) (j:Nat) (hj:j≤s.length):Lib.occAt s sub j=false:=by
 have h1:¬ 0≤Lib.index s sub:=of_decide_eq_false h
 rcases Lib.index_spec s sub with ⟨_,h2⟩ | ⟨i,h2,_⟩
 ·exact h2 j hj
 ·omega
theorem Zhn {s:List UInt8} {c:UInt8} (h:Lib.contains s [c]=false):∀ d ∈ s,d≠c:=fun d hd e=>by
 subst e
 obtain ⟨j,hj⟩:=List.getElem?_of_mem hd
 obtain ⟨hlt,he⟩:=List.getElem?_eq_some_iff.1 hj
 have:=Zic h j (by omega)
 unfold Lib.occAt at this
 rw [List.drop_eq_getElem_cons hlt,he] at this
 simp at this
theorem Zqx:∀ {s ch:List UInt8},Lib.containsAny s ch=false→∀ c ∈ s,ch.contains c=false
 | [],ch,_,c,hc=>by cases hc
 | b::l,ch,h,c,hc=>by
   have h1:¬ 0≤Lib.indexAny (b::l) ch:=of_decide_eq_false h
   have hg:=Lib.indexAny_ge ch l
   unfold Lib.indexAny at h1
   cases hb:ch.contains b with
   | true=>rw [if_pos hb] at h1;exact absurd (by decide) h1
   | false=>
     rw [if_neg (by rw [hb];decide)] at h1
     have h2:Lib.indexAny l ch = -1:=by
      by_cases h3:Lib.indexAny l ch = -1
      ·exact h3
      ·rw [if_neg (by simpa using h3)] at h1
       omega
     rcases List.mem_cons.1 hc with rfl | hc
     ·exact hb
     ·refine Zqx (s:=l) ?_ c hc
      unfold Lib.containsAny
      rw [h2]
      rfl
def ZcE (p0:List Link) (p1:List Link):Option Bool:=
 if (!decide ((p0.length:Int)=(p1.length:Int))) then
  (some false:Option Bool)
 else
 Zbv Zed (fun f2 (x18:Int)=>
  if (decide (x18<(p0.length:Int))) then
   (atI p0 x18).bind fun e25=>
   (atI p1 x18).bind fun e26=>
   if (!decide (e25=e26)) then
    (some false:Option Bool)
   else
   f2 (w64 (x18+1))
  else
  (some true:Option Bool)) 0
theorem Zfo (p0:List Link) (p1:List Link) (r:Bool) (h:ZcE p0 p1=some r):ZH Tryz.prog 15 [.sl (List.map Link.cs p0),.sl (List.map Link.cs p1)] (.bool r):=by
 refine cF (fun r=>.bool r) h mix Tryz.func15 fun r h=>?_
 unfold ZcE at h
 refine ZW ?_
 refine rg ?_
 refine rg ?_
 refine lM Link.cs p0 ?_
 refine lM Link.cs p1 ?_
 refine cS h rfl (fun h=>?_) fun h=>?_
 ·refine rg ?_
  cases h
  exact rQ
 refine rg ?_
 refine bl ?_
 refine Zar h fun f2 mf2 hf2 h=>?_
 refine Zac (α:=Nat×Int) (fun a _=>mkS [(0,.sl (List.map Link.cs p0)),(1,.sl (List.map Link.cs p1)),(5,.int .i64 a.2)] [] 2) (fun a=>Zbv a.1 f2 a.2=some r) (fun a=>a.1) (mf2,0) 2 h (sR []) (fun a _ h=>?_)
 obtain ⟨mf2,x18⟩:=a
 obtain ⟨mf2,rfl,h⟩:=Zas hf2 h
 dsimp only at h ⊢
 refine ZW ?_
 refine rg ?_
 refine lM Link.cs p0 ?_
 refine cS h rfl (fun h=>?_) fun h=>?_
 ·refine bl ?_
  refine rg ?_
  refine aI Link.cs h fun e25 h=>?_
  refine aI Link.cs h fun e26 h=>?_
  refine Znw (.inr rfl) rfl rfl rfl rfl rfl (fun W=>Zou e25 e26 W) (ZW ?_)
  refine cS h rfl (fun h=>?_) fun h=>?_
  ·refine rg ?_
   cases h
   exact rQ
  refine rg ?_
  exact rn (mf2,(w64 (x18+1))) h (sR [])
 refine rg ?_
 cases h
 exact rQ
def ZdP (p0:List Memb) (p1:List Memb):Option Bool:=
 if (!decide ((p0.length:Int)=(p1.length:Int))) then
  (some false:Option Bool)
 else
 Zbv Zed (fun f2 (x18:Int)=>
  if (decide (x18<(p0.length:Int))) then
   (atI p0 x18).bind fun e25=>
   (atI p1 x18).bind fun e26=>
   if (!decide (e25=e26)) then
    (some false:Option Bool)
   else
   f2 (w64 (x18+1))
  else
  (some true:Option Bool)) 0
theorem Zhd (p0:List Memb) (p1:List Memb) (r:Bool) (h:ZdP p0 p1=some r):ZH Tryz.prog 16 [.sl (List.map Memb.cs p0),.sl (List.map Memb.cs p1)] (.bool r):=by
 refine cF (fun r=>.bool r) h mix Tryz.func16 fun r h=>?_
 unfold ZdP at h
 refine ZW ?_
 refine rg ?_
 refine rg ?_
 refine lM Memb.cs p0 ?_
 refine lM Memb.cs p1 ?_
 refine cS h rfl (fun h=>?_) fun h=>?_
 ·refine rg ?_
  cases h
  exact rQ
 refine rg ?_
 refine bl ?_
 refine Zar h fun f2 mf2 hf2 h=>?_
 refine Zac (α:=Nat×Int) (fun a _=>mkS [(0,.sl (List.map Memb.cs p0)),(1,.sl (List.map Memb.cs p1)),(5,.int .i64 a.2)] [] 2) (fun a=>Zbv a.1 f2 a.2=some r) (fun a=>a.1) (mf2,0) 2 h (sR []) (fun a _ h=>?_)
 obtain ⟨mf2,x18⟩:=a
 obtain ⟨mf2,rfl,h⟩:=Zas hf2 h
 dsimp only at h ⊢
 refine ZW ?_
 refine rg ?_
 refine lM Memb.cs p0 ?_
 refine cS h rfl (fun h=>?_) fun h=>?_
 ·refine bl ?_
  refine rg ?_
  refine aI Memb.cs h fun e25 h=>?_
  refine aI Memb.cs h fun e26 h=>?_
  refine Znw (.inr rfl) rfl rfl rfl rfl rfl (fun W=>Zrc e25 e26 W) (ZW ?_)
  refine cS h rfl (fun h=>?_) fun h=>?_
  ·refine rg ?_
   cases h
   exact rQ
  refine rg ?_
  exact rn (mf2,(w64 (x18+1))) h (sR [])
 refine rg ?_
 cases h
 exact rQ
def Zev:Option Bool:=
 (Zct (⟨#[91,91,65,124,98,93,93,32,123,123,116,124,91,91,67,93,93,125,125,32,91,91,67,97,116,101,103,111,114,121,58,88,124,121,93,93,32,60,105,110,99,108,117,100,101,111,110,108,121,62,91,91,68,93,93,60,47,105,110,99,108,117,100,101,111,110,108,121,62]⟩:ByteArray)).bind fun r1=>
 letk (fun (x4:Bool)=>
  (some x4:Option Bool)) fun k1=>
 if (decide (r1.2.2=0)) then
  (ZcE r1.1 [(⟨1,(⟨0,(⟨#[65]⟩:ByteArray)⟩:Title)⟩:Link),(⟨2,(⟨3,(⟨#[84]⟩:ByteArray)⟩:Title)⟩:Link)]).bind fun r5=>
  if r5 then
   (ZdP r1.2.1 [(⟨(⟨4,(⟨#[88]⟩:ByteArray)⟩:Title),(⟨#[121]⟩:ByteArray)⟩:Memb)]).bind fun r6=>
   k1 r6
  else
  k1 false
 else
 k1 false
theorem Zf9  (r:Bool) (h:Zev=some r):ZH Tryz.prog 10 [] (.bool r):=by
 refine cF (fun r=>.bool r) h mix Tryz.func10 fun r h=>?_
 unfold Zev at h
 refine ZW ?_
 refine rg ?_
 refine rg ?_
 refine aC h (ZfV _) fun r1 h=>?_
 refine jL h (fun x4=>mkS [(0,.bool x4)] [] 2) (fun k1 h=>?_) fun x4 h=>?_
 ·refine rg ?_
  refine kS 11 h rfl (fun h=>?_) fun h=>?_
  ·refine Zcp (M:=([(⟨1,(⟨0,(⟨#[65]⟩:ByteArray)⟩:Title)⟩:Link),(⟨2,(⟨3,(⟨#[84]⟩:ByteArray)⟩:Title)⟩:Link)]:List Link)) (f:=Link.cs) rfl rfl rfl rfl (Nat.le_of_ble_eq_true rfl) rfl (ZW ?_)
   refine aL h (Zfo _ _) fun r5 h=>?_
   refine kS 20 h rfl (fun h=>?_) fun h=>?_
   ·refine Zcp (M:=([(⟨(⟨4,(⟨#[88]⟩:ByteArray)⟩:Title),(⟨#[121]⟩:ByteArray)⟩:Memb)]:List Memb)) (f:=Memb.cs) rfl rfl rfl rfl (Nat.le_of_ble_eq_true rfl) rfl (ZW ?_)
    refine aL h (Zhd _ _) fun r6 h=>?_
    exact jn r6 h (sR [])
   iterate 5 refine Zaj rfl (ZW ?_)
   exact jn false h (sR [])
  iterate 12 refine Zaj rfl (ZW ?_)
  exact jn false h (sR [])
 cases h
 exact rQ
end Go.Proofs.YtmgfammllddkhaaGreatDoor
set_option maxRecDepth 1000000
namespace Go.Proofs.YtmgfammllddkhaaGreatDoor
theorem ZlB:Zev=some true:=by kernel_rfl
end Go.Proofs.YtmgfammllddkhaaGreatDoor
namespace Go.Proofs.YtmgfammllddkhaaGreatDoor
open Go.RowKit
theorem Zsd (r:Int) (h:128≤r):∃ x:UInt8,128≤x.toNat∧((∃ a,Utf8.encode r=⟨#[a,x]⟩)∨(∃ a b,Utf8.encode r=⟨#[a,b,x]⟩)∨∃ a b c,Utf8.encode r=⟨#[a,b,c,x]⟩):=by
 have hb:∀ n:Nat,n<64→128≤(UInt8.ofNat (0x80+n)).toNat:=fun n hn=>by
  rw [UInt8.toNat_ofNat']
  omega
 unfold Utf8.encode
 generalize hc:(if Utf8.valid r=true then r.toNat else Utf8.runeError)=c
 have h128:128≤c:=by
  rw [← hc]
  split
  ·omega
  ·decide
 dsimp only
 rw [if_neg (by omega)]
 split
 ·exact ⟨_,hb (c % 64) (Nat.mod_lt _ (by decide)),.inl ⟨_,rfl⟩⟩
 split
 ·exact ⟨_,hb (c % 64) (Nat.mod_lt _ (by decide)),.inr (.inl ⟨_,_,rfl⟩)⟩
 ·exact ⟨_,hb (c % 64) (Nat.mod_lt _ (by decide)),.inr (.inr ⟨_,_,_,rfl⟩)⟩
theorem Zla:∀ (l:List UInt8) (x:UInt8),(∀ b ∈ l,b.toNat<128)→128≤x.toNat→Lib.indexByte l x = -1
 | l,x,h,hx=>by
   have:=Lib.contains_iff_indexByte l x
   have hn:l.contains x=false:=by
    rw [Bool.eq_false_iff]
    intro hc
    have:=h x (by simpa using hc)
    omega
   rw [hn] at this
   have h1:=of_decide_eq_false this.symm
   have h2:=Lib.indexByte_ge l x
   omega
set_option maxHeartbeats 4000000 in
set_option maxRecDepth 100000 in
theorem Zkf (s:ByteArray) (ha:∀ (j:Nat) b,s.data.toList[j]? = some b→b.toNat<128) (w:World) :
  Calls Tryz.prog 97 #[.string s,.int .i32 65533] w fun e w'=>e = .returned (.int .i64 (-1))∧Below w.heap.size w w':=by
 have HA:Aside (∀ (j:Nat) b,s.data.toList[j]? = some b→b.toNat<128):=ha
 clear ha
 go_enter Tryz.func97,Tryz.ntmps97
 go_wp2
 go_loopw [5,6] (fun _ _ wr=>∃ pos:Nat,pos≤s.size∧wr.heap[w.heap.size]? = some (.stringIter s pos)∧Below w.heap.size w wr) (fun _ _ wr=>s.size - wr.iterPos w.heap.size)
 case atStart=>exact ⟨0,Nat.zero_le _,World.iter_heap w s 0,(Below.refl _ w).alloc (Nat.le_refl _) _⟩
 case round=>
  obtain ⟨pos,hp,hit,hbw⟩:=hrel
  by_cases hlt:pos<s.size
  ·have hx:∃ x:UInt8,s[pos]'hlt=x:=⟨_,rfl⟩
   obtain ⟨x,hx⟩:=hx
   have hx128:x.toNat<128:=HA.out pos x (by rw [← hx];exact Lib.data_getElem? s pos hlt)
   have hnx:=fun ty=>Lib.run_next_ascii_at (P:=Tryz.prog) wr w.heap.size s pos ty hit hlt (by rw [hx];exact hx128)
   rw [hx] at hnx
   have hne:¬ ((x.toNat:Int)=65533):=by omega
   go_wp2
   go_roundw
   case rel=>exact ⟨pos+1,hlt,Lib.iterAt_heap wr w.heap.size s pos (pos+1) hit,Lib.below_iterAt hbw (Nat.le_refl _) s (pos+1)⟩
   case measure=>simp only [World.iterPos,Lib.iterAt_heap wr w.heap.size s pos (pos+1) hit,hit];omega
  ·have hnx:=fun ty=>Lib.run_next_end_at (P:=Tryz.prog) wr w.heap.size s pos ty hit hlt
   go_wp2
   go_ret
   exact ⟨rfl,hbw⟩
set_option maxHeartbeats 4000000 in
set_option maxRecDepth 100000 in
theorem ZeQ (s:ByteArray) (hs:s.size≤1000) (ha:∀ (j:Nat) b,s.data.toList[j]? = some b→b.toNat<128) (r:Int) (h1:128≤r) (hr:¬ r=65533) (h2:2≤(Utf8.encode r).size) (h4:(Utf8.encode r).size≤4) (x:UInt8) (hx:(Utf8.encode r).data.toList[(Utf8.encode r).size - 1]? = some x) (hx128:128≤x.toNat) (w:World) :
  Calls Tryz.prog 97 #[.string s,.int .i32 r] w fun e w'=>e = .returned (.int .i64 (-1))∧Below w.heap.size w w':=by
 have HA:Aside (∀ (j:Nat) b,s.data.toList[j]? = some b→b.toNat<128):=ha
 have HX:=Lib.hid hx
 clear ha hx
 have h128:¬ r<128:=by omega
 go_enter Tryz.func97,Tryz.ntmps97
 by_cases hv:Lib.validRune r=true
 ·go_wp2_with (go_at_call 166;refine (Tryz.utf8_ValidRune r _).mono ?_;rintro e w' ⟨rfl,hw⟩;rw [hw,hv])
  go_step3
  go_wp2
  obtain ⟨m,hm⟩:∃ m:Nat,((Utf8.encode r).size:Int) - 1=(m:Int):=⟨(Utf8.encode r).size - 1,by omega⟩
  rw [hm]
  have HM:=Lib.hid hm
  have b0:m+1≤(Utf8.encode r).size:=by omega
  clear hm
  go_loopw [9] (fun i wr=>i = .int .i64 (m:Int)∧wr=w) (fun _ _=>0)
  case atStart=>exact ⟨by go_num,rfl⟩
  case round=>
   obtain ⟨rfl,rfl⟩:=hrel
   by_cases hlt:m<s.size
   ·have hlr:m<(Utf8.encode r).size:=by omega
    have b1:(0:Int)≤(m:Int):=by omega
    have b2:(m:Int)<(s.size:Int):=by omega
    have b3:(m:Int)<((Utf8.encode r).size:Int):=by omega
    go_wp2_with fail
    go_step3
    go_wp2_with fail
    have hxe:(Utf8.encode r)[m]'hlr=x:=by
     have h1:=HX.out
     rw [show (Utf8.encode r).size - 1=m by have:=HM.out;omega,Lib.data_getElem? _ m hlr] at h1
     injection h1
    have hy128:(s[m]'hlt).toNat<128:=HA.out m _ (Lib.data_getElem? s m hlt)
    have hne:(((s[m]'hlt).toNat:Int) != (x.toNat:Int))=true:=by
     simp
     omega
    have HI:Hid (Lib.indexByte (s.extract (m+1) s.size).data.toList x = -1):=Lib.hid (Zla _ _ (fun b hb=>by
     obtain ⟨j,hj⟩:=List.getElem?_of_mem hb
     rw [ByteArray.data_extract,Array.toList_extract,List.extract_eq_take_drop,List.getElem?_take] at hj
     split at hj
     ·rw [List.getElem?_drop] at hj
      exact HA.out _ b hj
     ·cases hj) hx128)
    go_quiet (fail)
    first | rw [hne] | skip
    have b4:(m:Int)+1≤(s.size:Int):=by omega
    have b5:(0:Int)≤(m:Int)+1:=by omega
    have hback:((x.toNat:Int)).toNat.toUInt8=x:=by simp
    have b6:IntKind.i64.wrap ((m:Int)+1)=(m:Int)+1:=by rw [IntKind.wrap_i64];omega
    have b7:m+1≤s.size:=hlt
    have b8:((m:Int)+1).toNat=m+1:=by omega
    go_wp2_with fail
    go_quiet ((go_at_call 165;exact (Tryz.strings_IndexByte _ _ _).mono (fun e w' h=>⟨by rw [h.1,hback,HI.out],_,h.2⟩)))
    go_wp2
    simp +zetaDelta only [Exit.noGoto,Exit.inBlock,Exit.then]
    go_ret
    exact ⟨rfl,Below.dn (Below.refl _ _) _⟩
   ·have hc:¬ (m:Int)<(s.size:Int):=by omega
    go_wp2
    go_ret
    exact ⟨rfl,Below.refl _ _⟩
 ·have hv':Lib.validRune r=false:=by simpa using hv
  go_wp2_with (go_at_call 166;refine (Tryz.utf8_ValidRune r _).mono ?_;rintro e w' ⟨rfl,hw⟩;rw [hw,hv'])
  go_ret
  exact ⟨rfl,Below.refl _ _⟩
theorem Zlb (s:ByteArray) (hs:s.size≤1000) (ha:∀ (j:Nat) b,s.data.toList[j]? = some b→b.toNat<128) (r:Int) (h1:128≤r) (w:World) :
  Calls Tryz.prog 97 #[.string s,.int .i32 r] w fun e w'=>e = .returned (.int .i64 (-1))∧Below w.heap.size w w':=by
 by_cases hr:r=65533
 ·subst hr
  exact Zkf s ha w
 ·obtain ⟨x,hx,he⟩:=Zsd r h1
  rcases he with ⟨a,he⟩ | ⟨a,b,he⟩ | ⟨a,b,c,he⟩
  ·exact ZeQ s hs ha r h1 hr (by rw [he];exact Nat.le_refl 2) (by rw [he];show 2≤4;decide) x (by rw [he];rfl) hx w
  ·exact ZeQ s hs ha r h1 hr (by rw [he];show 2≤3;decide) (by rw [he];show 3≤4;decide) x (by rw [he];rfl) hx w
  ·exact ZeQ s hs ha r h1 hr (by rw [he];show 2≤4;decide) (by rw [he];exact Nat.le_refl 4) x (by rw [he];rfl) hx w
theorem Zmp {s:ByteArray} {j:Nat} {b:UInt8} (h:s.data.toList[j]? = some b):s.get! j=b:=by
 obtain ⟨a⟩:=s
 have:a[j]? = some b:=by simpa using h
 show a[j]! = b
 rw [getElem!_def,this]
theorem Zlc (s:ByteArray) (pos:Nat) (h:pos<s.size) (ha:128≤(s.get! pos).toNat) (j:Nat) (hj:j<(Utf8.decode s pos).2):pos+j<s.size∧128≤(s.get! (pos+j)).toNat:=by
 have one:j<1→pos+j<s.size∧128≤(s.get! (pos+j)).toNat:=fun hj=>by
  obtain rfl:j=0:=by omega
  exact ⟨h,ha⟩
 have cont:∀ k,(decide (pos+k<s.size)&&(s.get! (pos+k)).toNat / 64 == 2)=true→pos+k<s.size∧128≤(s.get! (pos+k)).toNat:=fun k hk=>by
  simp only [Bool.and_eq_true,decide_eq_true_eq,beq_iff_eq] at hk
  exact ⟨hk.1,by omega⟩
 unfold Utf8.decode at hj
 dsimp only at hj
 split at hj
 ·exact one hj
 split at hj
 ·rename_i h1
  rw [Bool.and_eq_true] at h1
  split at hj
  ·have:j=0∨j=1:=by dsimp only at hj;omega
   rcases this with rfl | rfl
   ·exact one (by decide)
   ·exact cont 1 h1.2
  ·exact one hj
 split at hj
 ·rename_i h1
  rw [Bool.and_eq_true,Bool.and_eq_true] at h1
  split at hj
  ·have:j=0∨j=1∨j=2:=by dsimp only at hj;omega
   rcases this with rfl | rfl | rfl
   ·exact one (by decide)
   ·exact cont 1 h1.1.2
   ·exact cont 2 h1.2
  ·exact one hj
 split at hj
 ·rename_i h1
  rw [Bool.and_eq_true,Bool.and_eq_true,Bool.and_eq_true] at h1
  split at hj
  ·have:j=0∨j=1∨j=2∨j=3:=by dsimp only at hj;omega
   rcases this with rfl | rfl | rfl | rfl
   ·exact one (by decide)
   ·exact cont 1 h1.1.1.2
   ·exact cont 2 h1.1.2
   ·exact cont 3 h1.2
  ·exact one hj
 ·exact one hj
theorem Zqe {s chars:ByteArray} {pos k:Nat} (hc:∀ (j:Nat) b,chars.data.toList[j]? = some b→b.toNat<128) (h:Lib.NoAny s.data.toList chars.data.toList pos) (hk:∀ j,j<k→128≤(s.get! (pos+j)).toNat):Lib.NoAny s.data.toList chars.data.toList (pos+k):=fun j b hj hb=>by
 by_cases h1:j<pos
 ·exact h j b h1 hb
 ·have h2:=hk (j - pos) (by omega)
  rw [show pos+(j - pos)=j by omega,Zmp hb] at h2
  rw [Bool.eq_false_iff]
  intro h3
  obtain ⟨i,hi⟩:=List.getElem?_of_mem (show b ∈ chars.data.toList by simpa using h3)
  have:=hc i b hi
  omega
set_option maxHeartbeats 4000000 in
set_option maxRecDepth 100000 in
theorem Zi6 (s chars:ByteArray) (w:World) (h2:2≤chars.size) (hc:chars.size≤1000) (h8:s.size≤8) (hascii:∀ (j:Nat) b,chars.data.toList[j]? = some b→b.toNat<128) :
  Calls Tryz.prog 59 #[.string s,.string chars] w fun e w'=>e = .returned (.int .i64 (Lib.indexAny s.data.toList chars.data.toList))∧Below w.heap.size w w':=by
 have HA:Aside (∀ (j:Nat) b,chars.data.toList[j]? = some b→b.toNat<128):=hascii
 clear hascii
 have hemp:chars.toList.isEmpty=false:=by
  rw [Lib.toList_data]
  cases h:chars.data.toList with
  | nil=>have:=Lib.size_eq chars;rw [h,List.length_nil] at this;omega
  | cons _ _=>rfl
 have hn1:((chars.size:Int) == 1)=false:=beq_eq_false_iff_ne.2 (by omega)
 have h8z:decide ((8:Int)<(s.size:Int))=false:=decide_eq_false (by omega)
 go_enter Tryz.func59,Tryz.ntmps59
 go_wp2_with (go_at_call 98;refine (Tryz.strings_shouldUseASCIISet _ _).mono ?_;rintro e w' ⟨rfl,hw⟩;rw [hw,h8z])
 go_loopw [9,10] (fun _ _ wr=>∃ pos:Nat,pos≤s.size∧wr.heap[w.heap.size]? = some (.stringIter s pos)∧Below w.heap.size w wr∧Lib.NoAny s.data.toList chars.data.toList pos) (fun _ _ wr=>s.size - wr.iterPos w.heap.size)
 case atStart=>exact ⟨0,Nat.zero_le _,World.iter_heap w s 0,(Below.refl _ w).alloc (Nat.le_refl _) _,Lib.NoAny.zero _ _⟩
 case round=>
  obtain ⟨pos,hp,hit,hbw,hno⟩:=hrel
  have HN:Aside (Lib.NoAny s.data.toList chars.data.toList pos):=hno
  clear hno
  by_cases hlt:pos<s.size
  ·by_cases hx128:(s[pos]'hlt).toNat<128
   ·obtain ⟨x,hx⟩:∃ x:UInt8,s[pos]'hlt=x:=⟨_,rfl⟩
    have hxl:s.data.toList[pos]? = some x:=by rw [← hx];exact Lib.data_getElem? s pos hlt
    rw [hx] at hx128
    have hnx:=fun ty=>Lib.run_next_ascii_at (P:=Tryz.prog) wr w.heap.size s pos ty hit hlt (by rw [hx];exact hx128)
    rw [hx] at hnx
    have Hx:Aside (s.data.toList[pos]? = some x):=hxl
    clear hxl hx
    have hcon:=Lib.contains_iff_indexByte chars.data.toList x
    have hback:((x.toNat:Int)).toNat.toUInt8=x:=by simp
    cases hin:chars.data.toList.contains x
    ·rw [hin] at hcon
     have hlt2:¬ ((0:Int)≤Lib.indexByte chars.data.toList x):=of_decide_eq_false hcon.symm
     clear hcon
     go_wp2_with (go_at_call 97;refine (Tryz.strings_IndexRune_ascii _ _ _ (by omega) (by omega)).mono ?_;rintro e w' ⟨rfl,hw⟩;rw [hw,hback])
     go_roundw
     case rel=>exact ⟨pos+1,hlt,Lib.iterAt_heap wr w.heap.size s pos (pos+1) hit,Lib.below_iterAt hbw (Nat.le_refl _) s (pos+1),HN.out.succ Hx.out hin⟩
     case measure=>simp only [World.iterPos,Lib.iterAt_heap wr w.heap.size s pos (pos+1) hit,hit];omega
    ·rw [hin] at hcon
     have hge:(0:Int)≤Lib.indexByte chars.data.toList x:=of_decide_eq_true hcon.symm
     clear hcon
     go_wp2_with (go_at_call 97;refine (Tryz.strings_IndexRune_ascii _ _ _ (by omega) (by omega)).mono ?_;rintro e w' ⟨rfl,hw⟩;rw [hw,hback])
     go_ret
     exact ⟨by rw [Lib.indexAny_hit HN.out Hx.out hin];rfl,Lib.below_iterAt hbw (Nat.le_refl _) s (pos+1)⟩
   ·have hg:128≤(s.get! pos).toNat:=by rw [Zmp (Lib.data_getElem? s pos hlt)];omega
    have hb:=Zlc s pos hlt hg
    obtain ⟨d1,d2⟩:=decode_high s pos hlt (by omega)
    have hnx:=fun ty=>Lib.run_next_any_at (P:=Tryz.prog) wr w.heap.size s pos ty hit hlt
    generalize hrk:Utf8.decode s pos=rk at hb d1 d2 hnx
    obtain ⟨r,k⟩:=rk
    dsimp only at hb d1 d2 hnx
    clear hrk
    have hsz:pos+k≤s.size:=by have:=(hb (k - 1) (by omega)).1;omega
    have HN2:=Zqe HA.out HN.out fun j hj=>(hb j hj).2
    have HN3:Aside (Lib.NoAny s.data.toList chars.data.toList (pos+k)):=HN2
    clear HN2 hb
    go_wp2_with (go_at_call 97;refine (Zlb _ (by omega) HA.out _ (by omega) _).mono ?_;rintro e w' ⟨rfl,hbw2⟩)
    have hit2:=Lib.iterAt_heap wr w.heap.size s pos (pos+k) hit
    have hlt3:w.heap.size<(wr.iterAt w.heap.size s (pos+k)).heap.size:=(Array.getElem?_eq_some_iff.1 hit2).1
    have hit3:w'.heap[w.heap.size]? = some (.stringIter s (pos+k)):=(hbw2.block _ hlt3).trans hit2
    refine ⟨⟨pos+k,hsz,hit3,(Lib.below_iterAt hbw (Nat.le_refl _) s (pos+k)).trans (hbw2.mono (Nat.le_of_lt hlt3)),HN3.out⟩,?_⟩
    simp only [World.iterPos,hit3,hit]
    omega
  ·have hnx:=fun ty=>Lib.run_next_end_at (P:=Tryz.prog) wr w.heap.size s pos ty hit hlt
   obtain rfl:pos=s.size:=by omega
   go_wp2
   go_ret
   exact ⟨by rw [Lib.indexAny_none (by rw [← Lib.size_eq];exact HN.out)];rfl,hbw⟩
end Go.Proofs.YtmgfammllddkhaaGreatDoor
namespace Go.Proofs.YtmgfammllddkhaaGreatDoor
open VL Go.RowKit
set_option maxRecDepth 1000000 in
theorem Zku (s chars:ByteArray) (w:World) (h2:2≤chars.size) (hc:chars.size≤1000) (hs:s.size<4294967281) (hascii:∀ (j:Nat) b,chars.data.toList[j]? = some b→b.toNat<128) :
  Calls Tryz.prog 59 #[.string s,.string chars] w fun e w'=>e = .returned (.int .i64 (Lib.indexAny s.data.toList chars.data.toList))∧Below w.heap.size w w':=by
 by_cases h8:s.size≤8
 ·exact Zi6 s chars w h2 hc h8 hascii
 ·refine (Tryz.strings_IndexAny_long (zero_of_info (show (Tryz.prog.info? 130).map (fun i=>(i.zero,i.size))=some (some (.agg (Array.replicate 256 (.bool false))),256) by kernel_rfl)).1 s chars w h2 (by omega) hs (by omega) hascii).mono ?_
  rintro e w' ⟨rfl,rfl⟩
  exact ⟨rfl,((Below.refl _ w).alloc (Nat.le_refl _) _).alloc (by simp) _⟩
theorem Ze5 (s chars:ByteArray) (w:World) (h2:2≤chars.size) (hc:chars.size≤1000) (hs:s.size<4294967281) (hascii:∀ (j:Nat) b,chars.data.toList[j]? = some b→b.toNat<128) :
  Calls Tryz.prog 25 #[.string s,.string chars] w fun e w'=>e = .returned (.bool (Lib.containsAny s.data.toList chars.data.toList))∧Below w.heap.size w w':=by
 unfold Lib.containsAny
 have hcon:=Zku s chars
 generalize Lib.indexAny s.data.toList chars.data.toList=q at hcon ⊢
 go_enter Tryz.func25,Tryz.ntmps25
 go_wp2_with (go_at_call 59;refine (hcon _ h2 hc hs hascii).mono ?_;rintro e w' ⟨rfl,hb⟩)
 go_ret
 exact ⟨rfl,hb⟩
def ZbA (s c:ByteArray):Option Bool:=if s.size<4294967281∧(c=⟨#[123,125]⟩∨c=⟨#[60,123,125]⟩) then some (Lib.containsAny s.data.toList c.data.toList) else none
theorem Ze6 (s c:ByteArray) (r:Bool) (h:ZbA s c=some r):ZH Tryz.prog 25 [.str s,.str c] (.bool r):=by
 unfold ZbA at h
 split at h
 ·rename_i hc
  injection h with h
  subst h
  refine ZaS (vals:=[.string s,.string c]) (by kernel_rfl) rfl rfl (fun x=>.bool _) fun w _=>?_
  rcases hc.2 with rfl | rfl
  ·exact Ze5 s _ w (by decide) (by decide) hc.1 (fun j b hj=>by match j,hj with | 0,hj=>(injection hj with hj;subst hj;decide) | 1,hj=>(injection hj with hj;subst hj;decide))
  ·exact Ze5 s _ w (by decide) (by decide) hc.1 (fun j b hj=>by match j,hj with | 0,hj=>(injection hj with hj;subst hj;decide) | 1,hj=>(injection hj with hj;subst hj;decide) | 2,hj=>(injection hj with hj;subst hj;decide))
 ·cases h
end Go.Proofs.YtmgfammllddkhaaGreatDoor
namespace Go.Proofs.YtmgfammllddkhaaGreatDoor
open VL
def Zcw (p0:ByteArray):Option Bool:=
 letk (fun (x3:Bool)=>
  if x3 then
   (Zev).bind fun r5=>
   (some r5:Option Bool)
  else
  (ZhE (⟨#[60,33,45,45]⟩:ByteArray) p0).bind fun s6=>
  (ZhE s6 (⟨#[45,45,62,60,110,111,119,105,107,105,62]⟩:ByteArray)).bind fun s7=>
  (ZhE s7 p0).bind fun s8=>
  (ZhE s8 (⟨#[60,47,110,111,119,105,107,105,62,60,105,110,99,108,117,100,101,111,110,108,121,62]⟩:ByteArray)).bind fun s9=>
  (ZhE s9 p0).bind fun s10=>
  (ZhE s10 (⟨#[60,47,105,110,99,108,117,100,101,111,110,108,121,62]⟩:ByteArray)).bind fun s11=>
  (Zct s11).bind fun r12=>
  letk (fun (x13:Bool)=>
   if x13 then
    (some false:Option Bool)
   else
   (ZbA p0 (⟨#[123,125]⟩:ByteArray)).bind fun r14=>
   if r14 then
    (Zev).bind fun r16=>
    (some r16:Option Bool)
   else
   (ZhE (⟨#[123,123,58,81,124]⟩:ByteArray) p0).bind fun s17=>
   (ZhE s17 (⟨#[125,125]⟩:ByteArray)).bind fun s18=>
   (Zct s18).bind fun r19=>
   letk (fun (x22:Bool)=>
    (some x22:Option Bool)) fun k3=>
   if (decide (r19.2.2=0)) then
    if (decide ((r19.2.1.length:Int)=0)) then
     (ZcE r19.1 [(⟨2,(⟨0,(⟨#[81]⟩:ByteArray)⟩:Title)⟩:Link)]).bind fun r23=>
     if r23 then
      (Zev).bind fun r24=>
      k3 r24
     else
     k3 false
    else
    k3 false
   else
   k3 false) fun k2=>
  if (!decide (r12.2.2=0)) then
   k2 true
  else
  if (!decide ((r12.1.length:Int)=0)) then
   k2 true
  else
  k2 (!decide ((r12.2.1.length:Int)=0))) fun k1=>
 if (decide (400<(p0.size:Int))) then
  k1 true
 else
 (strings_Contains p0 (⟨#[60]⟩:ByteArray)).bind fun r25=>
 if r25 then
  k1 true
 else
 (strings_Contains p0 (⟨#[45,45,62]⟩:ByteArray)).bind fun r26=>
 k1 r26
theorem Zg2 (p0:ByteArray) (r:Bool) (h:Zcw p0=some r):ZH Tryz.prog 7 [.str p0] (.bool r):=by
 refine cF (fun r=>.bool r) h mix Tryz.func7 fun r h=>?_
 unfold Zcw at h
 refine ZW ?_
 refine rg ?_
 refine jL h (fun x3=>mkS [(0,.str p0),(19,.bool x3)] [] 2) (fun k1 h=>?_) fun x3 h=>?_
 ·refine rg ?_
  refine kS 12 h rfl (fun h=>?_) fun h=>?_
  ·iterate 4 refine Zaj rfl (ZW ?_)
   exact jn true h (sR [])
  refine aC h (Zbb _ _) fun r25 h=>?_
  refine kS 16 h rfl (fun h=>?_) fun h=>?_
  ·iterate 2 refine Zaj rfl (ZW ?_)
   exact jn true h (sR [])
  refine aC h (Zbb _ _) fun r26 h=>?_
  exact jn r26 h (sR [])
 refine cS h rfl (fun h=>?_) fun h=>?_
 ·refine rg ?_
  refine aC h Zf9 fun r5 h=>?_
  cases h
  exact rQ
 refine rg ?_
 refine sT h fun s6 h=>?_
 refine sT h fun s7 h=>?_
 refine sT h fun s8 h=>?_
 refine sT h fun s9 h=>?_
 refine sT h fun s10 h=>?_
 refine sT h fun s11 h=>?_
 refine aC h (ZfV _) fun r12 h=>?_
 refine jL h (fun x13=>mkS [(0,.str p0),(46,.bool x13)] [] 2) (fun k2 h=>?_) fun x13 h=>?_
 ·refine rg ?_
  refine kS 37 h rfl (fun h=>?_) fun h=>?_
  ·iterate 6 refine Zaj rfl (ZW ?_)
   exact jn true h (sR [])
  refine lM Link.cs r12.1 ?_
  refine kS 42 h rfl (fun h=>?_) fun h=>?_
  ·iterate 3 refine Zaj rfl (ZW ?_)
   exact jn true h (sR [])
  refine lM Memb.cs r12.2.1 ?_
  exact jn (!decide ((r12.2.1.length:Int)=0)) h (sR [])
 refine cS h rfl (fun h=>?_) fun h=>?_
 ·refine rg ?_
  cases h
  exact rQ
 refine rg ?_
 refine aC h (Ze6 _ _) fun r14 h=>?_
 refine cS h rfl (fun h=>?_) fun h=>?_
 ·refine rg ?_
  refine aC h Zf9 fun r16 h=>?_
  cases h
  exact rQ
 refine rg ?_
 refine sT h fun s17 h=>?_
 refine sT h fun s18 h=>?_
 refine aC h (ZfV _) fun r19 h=>?_
 refine jL h (fun x22=>mkS [(2,.bool x22)] [] 2) (fun k3 h=>?_) fun x22 h=>?_
 ·refine rg ?_
  refine kS 60 h rfl (fun h=>?_) fun h=>?_
  ·refine lM Memb.cs r19.2.1 ?_
   refine kS 65 h rfl (fun h=>?_) fun h=>?_
   ·refine Zcp (M:=([(⟨2,(⟨0,(⟨#[81]⟩:ByteArray)⟩:Title)⟩:Link)]:List Link)) (f:=Link.cs) rfl rfl rfl rfl (Nat.le_of_ble_eq_true rfl) rfl (ZW ?_)
    refine aL h (Zfo _ _) fun r23 h=>?_
    refine kS 72 h rfl (fun h=>?_) fun h=>?_
    ·refine aC h Zf9 fun r24 h=>?_
     exact jn r24 h (sR [])
    refine Zaj rfl (ZW ?_)
    exact jn false h (sR [])
   iterate 6 refine Zaj rfl (ZW ?_)
   exact jn false h (sR [])
  iterate 9 refine Zaj rfl (ZW ?_)
  exact jn false h (sR [])
 cases h
 exact rQ
theorem Zje (s c:ByteArray) (h:s.size≤1000000):strings_Contains s c=some (Lib.contains s.data.toList c.data.toList):=by
 unfold strings_Contains
 rw [if_pos (by omega)]
theorem Zsu:ZcE [⟨2,⟨0,⟨#[81]⟩⟩⟩] [⟨2,⟨0,⟨#[81]⟩⟩⟩]=some true:=by kernel_rfl
theorem ZmE (p:ByteArray):Zcw p=some true:=by
 have hp:p=bs p.data.toList:=rfl
 generalize hs:p.data.toList=s at hp
 have hz:p.size=s.length:=by rw [hp];rfl
 refine ZcS ?_
 unfold Zcw
 refine ZjY (fun q=>Tot (q true) (fun r=>r=true)∧(s.length≤400→Lib.contains s [60]=false→Lib.contains s [45,45,62]=false→Tot (q false) (fun r=>r=true))) ⟨?_,fun h400 h60 hc=>?_⟩ fun q hq=>?_
 ·exact ZcZ (fun _=>ZE ZlB (Zah rfl)) fun h=>by cases h
 ·refine ZcZ (fun h=>by cases h) fun _=>?_
  have e1:cmt.length=4:=rfl
  have e2:(cmtE++nwk).length=11:=rfl
  have e3:(nwkE++tO 2).length=22:=rfl
  have e4:(tC 2).length=14:=rfl
  rw [hp]
  refine ZE (v:=bs (cmt++s)) (Zcx cmt s (by omega)) ?_
  refine ZE (v:=bs (cmt++s++(cmtE++nwk))) (Zcx (cmt++s) (cmtE++nwk) (by simp only [List.length_append] at *;omega)) ?_
  refine ZE (Zcx (cmt++s++(cmtE++nwk)) s (by simp only [List.length_append] at *;omega)) ?_
  refine ZE (v:=bs (cmt++s++(cmtE++nwk)++s++(nwkE++tO 2))) (Zcx (cmt++s++(cmtE++nwk)++s) (nwkE++tO 2) (by simp only [List.length_append] at *;omega)) ?_
  refine ZE (Zcx (cmt++s++(cmtE++nwk)++s++(nwkE++tO 2)) s (by simp only [List.length_append] at *;omega)) ?_
  refine ZE (v:=bs (cmt++s++(cmtE++nwk)++s++(nwkE++tO 2)++s++tC 2)) (Zcx (cmt++s++(cmtE++nwk)++s++(nwkE++tO 2)++s) (tC 2) (by simp only [List.length_append] at *;omega)) ?_
  have e5:cmt++s++(cmtE++nwk)++s++(nwkE++tO 2)++s++tC 2=Zph s:=by unfold Zph;simp only [List.append_assoc]
  rw [e5]
  refine ZE (ZpR s (Zhn h60) (Zic hc) h400) ?_
  refine ZjY (fun q=>Tot (q false) (fun r=>r=true)) ?_ fun q hq=>?_
  ·refine ZcZ (fun h=>by cases h) fun _=>?_
   refine ZE (v:=Lib.containsAny s [123,125]) ?_ ?_
   ·unfold ZbA
    rw [if_pos ⟨by show s.length<_;omega,.inl rfl⟩]
    rfl
   refine ZcZ (fun _=>ZE ZlB (Zah rfl)) fun ha=>?_
   have hpl:Zno s:=fun c hc=>by
    have h1:=Zqx ha c hc
    refine ⟨Zhn h60 c hc,fun e=>?_,fun e=>?_⟩
    ·subst e;cases h1
    ·subst e;cases h1
   have e6:([123,123,58,81,124]:List UInt8).length=5:=rfl
   refine ZE (v:=bs ([123,123,58,81,124]++s)) (Zcx [123,123,58,81,124] s (by omega)) ?_
   refine ZE (v:=bs ([123,123,58,81,124]++s ++ [125,125])) (Zcx ([123,123,58,81,124]++s) [125,125] (by simp;omega)) ?_
   have e7 : [123,123,58,81,124]++s ++ [125,125]=ZiU s:=by unfold ZiU;rw [List.append_assoc]
   rw [e7]
   refine ZE (ZpB s hpl h400) ?_
   refine ZbO (Zav (fun _=>?_) fun h=>absurd rfl h)
   refine Zav (fun _=>?_) fun h=>absurd rfl h
   refine ZE Zsu (ZcZ (fun _=>?_) fun h=>by cases h)
   exact ZE ZlB (Zah rfl)
  ·refine ZlF (fun h=>absurd rfl h) fun _=>?_
   refine ZlF (fun h=>absurd rfl h) fun _=>?_
   exact hq
 ·refine Zav (fun _=>hq.1) fun h4=>?_
  have h400:s.length≤400:=by omega
  refine ZE (Zje p _ (by omega)) (ZcZ (fun _=>hq.1) fun h1=>?_)
  refine ZE (Zje p _ (by omega)) ?_
  rw [hs] at h1 ⊢
  cases h2:Lib.contains s [45,45,62] with
  | true=>exact hq.1
  | false=>exact hq.2 h400 h1 h2
end Go.Proofs.YtmgfammllddkhaaGreatDoor
namespace Go.Proofs.YtmgfammllddkhaaGreatDoor
open Go.RowKit Go.ChangeShapes Go.WideShapes Go.Deep
end Go.Proofs.YtmgfammllddkhaaGreatDoor

namespace Go.Proofs.YtmgfammllddkhaaGreatDoor
open VL Go.RowKit Go.ChangeShapes Go.WideShapes
theorem Zso {W:World} (hG:ZrD W) (W':World) (hb:Below W.heap.size W W'):WInv.I Tryz.prog W':=
 ⟨hG.imp fun _ hm=>re1 hb (Zhe hm) hm,trivial⟩
end Go.Proofs.YtmgfammllddkhaaGreatDoor
namespace Go.Proofs.YtmgfammllddkhaaGreatDoor
open VL Go.RowKit
theorem Zsy {x:Ctx} (i:Nat) (p:PV) (v:Value) (hp:([]:List PV)[i]? = some p) (hv:([]:List Value)[i]? = some v):Rep x p v:=by simp at hp
theorem Zsz {x:Ctx} {p:PV} {v:Value} {ps:List PV} {vs:List Value} (h:Rep x p v) (r:∀ (i:Nat) (p:PV) (v:Value),ps[i]? = some p→vs[i]? = some v→Rep x p v) (i:Nat) (q:PV) (w:Value) (hp:(p::ps)[i]? = some q) (hv:(v::vs)[i]? = some w):Rep x q w:=by
 cases i with
 | zero=>injection hp with hp;injection hv with hv;subst hp hv;exact h
 | succ i=>exact r i q w (by simpa using hp) (by simpa using hv)
theorem ZsA {x:Ctx} {ps:List PV} {vs:List Value} (r:∀ (i:Nat) (p:PV) (v:Value),ps[i]? = some p→vs[i]? = some v→Rep x p v) (i:Nat) (p:PV) (v:Value) (hp:ps[i]? = some p) (hv:vs.toArray[i]? = some v):Rep x p v:=r i p v hp (by simpa using hv)
theorem Zil (i0:ByteArray) (W:World)  (hI:∀ W',Below W.heap.size W W'→WInv.I Tryz.prog W') :
  Calls Tryz.prog 7 #[.string i0] W fun e w'=>e = .returned (.bool true)∧Below W.heap.size W w':=
 ZmG (Zg2 i0 true (ZmE i0 )) rfl (fun i p v hp hv=>ZsA (vs:=[.string i0]) (Zsz (.str _) Zsy) i p v hp hv) hI
end Go.Proofs.YtmgfammllddkhaaGreatDoor
