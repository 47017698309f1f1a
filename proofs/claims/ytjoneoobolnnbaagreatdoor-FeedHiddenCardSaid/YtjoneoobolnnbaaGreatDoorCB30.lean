/- Functions of the program as Lean functions. Written by fxgen.py. -/
import Derived.Test.YtjoneoobolnnbaaGreatDoorCB03
import Derived.Test.YtjoneoobolnnbaaGreatDoorCB04
set_option linter.unusedVariables false
set_option maxHeartbeats 4000000
set_option maxRecDepth 100000
namespace Go.Proofs.YtjoneoobolnnbaaGreatDoor
open VL
def ZbW (p0:Int) (p1:Int):Option Int:=
 (Zyb .i64 p0 p1).bind fun q1=>
 letk (fun (x2:Int)=>
  (some x2:Option Int)) fun k1=>
 if (decide (q1<0)) then
  k1 (w64 (q1+p1))
 else
 k1 q1
theorem ZbG (p0:Int) (p1:Int) (r:Int) (h:ZbW p0 p1=some r):Zd Tryz.prog 15 [.int .i64 p0,.int .i64 p1] (.int .i64 r):=by
 refine cF (fun r=>.int .i64 r) h mix Tryz.func15 fun r h=>?_
 unfold ZbW at h
 refine Zh ?_
 refine rg ?_
 refine rg ?_
 obtain ⟨q1,h1,h⟩:=bnd h
 refine ZwA rfl h1 rfl rfl (Zh ?_)
 refine rg ?_
 refine jL h (fun x2=>mkS [(5,.int .i64 x2)] [] 2) (fun k1 h=>?_) fun x2 h=>?_
 ·refine cS h rfl (fun h=>?_) fun h=>?_
  ·refine rg ?_
   exact jn (w64 (q1+p1)) h (sR [])
  exact jn q1 h (sR [])
 refine rg ?_
 cases h
 exact rQ
def ZgQ (p0:List Int):Option SrcF:=
 ZE Zaj (fun f7 ((x23,x24):Int×Int)=>
  letk (fun (x30:Bool)=>
   if x30 then
    (atI p0 x23).bind fun e33=>
    (Zjf .u64 (IntKind.wrap .u64 ((Zub .xor .u64 x24 (IntKind.wrap .u64 e33)) * 18397679294719823053)) 33).bind fun q34=>
    f7 ((w64 (x23+1)),(Zub .xor .u64 (IntKind.wrap .u64 ((Zub .xor .u64 x24 (IntKind.wrap .u64 e33)) * 18397679294719823053)) q34))
   else
   (some (⟨p0,0,x24⟩:SrcF):Option SrcF)) fun k8=>
  if (decide (x23<(p0.length:Int))) then
   k8 (decide (x23<64))
  else
  k8 false) (0,11400714819323198485)
theorem ZhC (p0:List Int) (r:SrcF) (h:ZgQ p0=some r):ContractN Tryz.prog 26 [.sl (List.map csI p0)] (.box r.cs):=by
 refine Zjd (O:=fun r=>.box r.cs) h mix Tryz.func26 (by kernel_rfl) rfl (by kernel_rfl) fun r h=>?_
 unfold ZgQ at h
 refine Zh ?_
 refine rg ?_
 refine rg ?_
 refine rg ?_
 refine bl ?_
 refine Zn h fun f7 mf7 hf7 h=>?_
 refine Zk (α:=Nat×(Int×Int)) (fun a _=>mkS [(0,.sl (List.map csI p0)),(3,.ptr 7 (1,7) 0),(4,.int .i64 a.2.1)] [(7,some ((1,7),.box [.sl (List.map csI p0),.int .i64 0,.int .u64 a.2.2]))] 2) (fun a=>ZE a.1 f7 a.2=some r) (fun a=>a.1) (mf7,0,11400714819323198485) 2 h (sR [(7,2,2)]) (fun a _ h=>?_)
 obtain ⟨mf7,x23,x24⟩:=a
 obtain ⟨mf7,rfl,h⟩:=Zo hf7 h
 dsimp only at h ⊢
 refine Zh ?_
 refine jL h (fun x30=>mkS [(0,.sl (List.map csI p0)),(3,.ptr 7 (1,7) 0),(4,.int .i64 x23),(15,.bool x30)] [(7,some ((1,7),.box [.sl (List.map csI p0),.int .i64 0,.int .u64 x24]))] 2) (fun k8 h=>?_) fun x30 h=>?_
 ·refine rg ?_
  refine lM csI p0 ?_
  refine kS 12 h rfl (fun h=>?_) fun h=>?_
  ·exact jn (decide (x23<64)) h (sR [(7,1,7)])
  iterate 2 refine Zi rfl (Zh ?_)
  exact jn false h (sR [(7,1,7)])
 refine cS h rfl (fun h=>?_) fun h=>?_
 ·refine bl ?_
  refine rg ?_
  refine aI csI h fun e33 h=>?_
  refine rg ?_
  obtain ⟨q34,h24,h⟩:=bnd h
  refine Zj5 rfl h24 rfl rfl (Zh ?_)
  refine rg ?_
  exact rn (mf7,(w64 (x23+1)),(Zub .xor .u64 (IntKind.wrap .u64 ((Zub .xor .u64 x24 (IntKind.wrap .u64 e33)) * 18397679294719823053)) q34)) h (sR [(7,1,7)])
 refine rg ?_
 injection h with h
 subst h
 exact ZtJ (t:=7) (g:=(1,7)) (o2:=.box [.sl (List.map csI p0),.int .i64 0,.int .u64 x24]) rfl rfl rfl
def ZA (p0:SrcF) (p1:Int):Option (Int×SrcF):=
 if (decide (p0.pos<(p0.l.length:Int))) then
  (atI p0.l (w64 ((w64 (p0.pos+1)) - 1))).bind fun e3=>
  (ZbW e3 p1).bind fun r4=>
  (some (r4,(⟨p0.l,(w64 (p0.pos+1)),p0.seed⟩:SrcF)):Option (Int×SrcF))
 else
 (Zjf .u64 (IntKind.wrap .u64 ((IntKind.wrap .u64 (p0.seed * 6364136223846793005))+1442695040888963407)) 33).bind fun q5=>
 (Zyb .u64 q5 (IntKind.wrap .u64 p1)).bind fun q6=>
 (some ((IntKind.wrap .i64 q6),(⟨p0.l,p0.pos,(IntKind.wrap .u64 ((IntKind.wrap .u64 (p0.seed * 6364136223846793005))+1442695040888963407))⟩:SrcF)):Option (Int×SrcF))
theorem Zy (p0:SrcF) (p1:Int) (r:Int×SrcF) (h:ZA p0 p1=some r):Contract Tryz.prog 40 [.ptr 0 (0,0) 0,.int .i64 p1] (some (0,p0.cs)) (.int .i64 r.1) (r.2).cs:=by
 refine Zbx (R:=fun r=>.int .i64 r.1) (O:=fun r=>(r.2).cs) h mix Tryz.func40 (by kernel_rfl) rfl (by kernel_rfl) fun r h=>?_
 unfold ZA at h
 refine Zh ?_
 refine rg ?_
 refine rg ?_
 refine lM csI p0.l ?_
 refine cS h rfl (fun h=>?_) fun h=>?_
 ·refine rg ?_
  refine rg ?_
  refine aI csI h fun e3 h=>?_
  refine aC h (ZbG _ _) fun r4 h=>?_
  cases h
  exact Zhi rfl rfl rfl rfl rfl
 refine rg ?_
 refine rg ?_
 obtain ⟨q5,h5,h⟩:=bnd h
 refine Zj5 rfl h5 rfl rfl (Zh ?_)
 obtain ⟨q6,h6,h⟩:=bnd h
 refine ZwA rfl h6 rfl rfl (Zh ?_)
 cases h
 exact Zhi rfl rfl rfl rfl rfl
def ZdH:Option (List Title):=
 (some [(⟨0,(⟨#[65]⟩:ByteArray)⟩:Title),(⟨0,(⟨#[66]⟩:ByteArray)⟩:Title),(⟨0,(⟨#[65,47,67]⟩:ByteArray)⟩:Title),(⟨3,(⟨#[84]⟩:ByteArray)⟩:Title),(⟨4,(⟨#[88]⟩:ByteArray)⟩:Title),(⟨4,(⟨#[89]⟩:ByteArray)⟩:Title),(⟨2,(⟨#[65,110,110]⟩:ByteArray)⟩:Title),(⟨0,(⟨#[68]⟩:ByteArray)⟩:Title)]:Option (List Title))
theorem Zec  (r:List Title) (h:ZdH=some r):Zd Tryz.prog 16 [] (.sl (List.map Title.cs r)):=by
 refine cF (fun r=>.sl (List.map Title.cs r)) h mix Tryz.func16 fun r h=>?_
 unfold ZdH at h
 refine Zh ?_
 refine rg ?_
 refine rg ?_
 refine bM Title.cs ([(⟨0,(⟨#[65]⟩:ByteArray)⟩:Title),(⟨0,(⟨#[66]⟩:ByteArray)⟩:Title),(⟨0,(⟨#[65,47,67]⟩:ByteArray)⟩:Title),(⟨3,(⟨#[84]⟩:ByteArray)⟩:Title),(⟨4,(⟨#[88]⟩:ByteArray)⟩:Title),(⟨4,(⟨#[89]⟩:ByteArray)⟩:Title),(⟨2,(⟨#[65,110,110]⟩:ByteArray)⟩:Title),(⟨0,(⟨#[68]⟩:ByteArray)⟩:Title)]:List Title) ?_
 cases h
 exact rQ
def ZgR:Option Title:=
 (some (⟨5,(⟨#[80,111,108,105,99,121]⟩:ByteArray)⟩:Title):Option Title)
theorem Zl8  (r:Title) (h:ZgR=some r):Zd Tryz.prog 67 [] (r.pv):=by
 refine cF (fun r=>r.pv) h mix Tryz.func67 fun r h=>?_
 unfold ZgR at h
 refine Zh ?_
 refine rg ?_
 refine rg ?_
 cases h
 exact rQ
def Ze1 (p0:SrcF):Option (Title×SrcF):=
 (ZdH).bind fun r1=>
 (ZA p0 8).bind fun r2=>
 (atI r1 r2.1).bind fun e3=>
 (some (e3,r2.2):Option (Title×SrcF))
theorem Zgj (p0:SrcF) (r:Title×SrcF) (h:Ze1 p0=some r):Contract Tryz.prog 41 [.ptr 0 (0,0) 0] (some (0,p0.cs)) (r.1.pv) (r.2).cs:=by
 refine Zbx (R:=fun r=>r.1.pv) (O:=fun r=>(r.2).cs) h mix Tryz.func41 (by kernel_rfl) rfl (by kernel_rfl) fun r h=>?_
 unfold Ze1 at h
 refine Zh ?_
 refine rg ?_
 refine rg ?_
 refine aC h Zec fun r1 h=>?_
 refine aO h (Zy _ _) fun r2 h=>?_
 refine aI Title.cs h fun e3 h=>?_
 cases h
 exact Zhi rfl rfl rfl rfl rfl
def Zi8 (p0:SrcF):Option (ByteArray×SrcF):=
 (ZA p0 5).bind fun r1=>
 (atI ([(⟨#[97,110,110]⟩:ByteArray),(⟨#[98,111,98]⟩:ByteArray),(⟨#[]⟩:ByteArray),(⟨#[99,121]⟩:ByteArray),(⟨#[97,110,110]⟩:ByteArray)]:List ByteArray) r1.1).bind fun c2=>
 (some (c2,r1.2):Option (ByteArray×SrcF))
theorem Zl9 (p0:SrcF) (r:ByteArray×SrcF) (h:Zi8 p0=some r):Contract Tryz.prog 64 [.ptr 0 (0,0) 0] (some (0,p0.cs)) (.str r.1) (r.2).cs:=by
 refine Zbx (R:=fun r=>.str r.1) (O:=fun r=>(r.2).cs) h mix Tryz.func64 (by kernel_rfl) rfl (by kernel_rfl) fun r h=>?_
 unfold Zi8 at h
 refine Zh ?_
 refine rg ?_
 refine rg ?_
 refine aO h (Zy _ _) fun r1 h=>?_
 obtain ⟨c2,h2,h⟩:=bnd h
 refine Zpa (p:=PV.str) rfl h2 rfl rfl rfl rfl rfl (Zh ?_)
 cases h
 exact Zhi rfl rfl rfl rfl rfl
def Zks (p0:SrcF):Option (ByteArray×SrcF):=
 (ZA p0 3).bind fun r1=>
 (atI ([(⟨#[]⟩:ByteArray),(⟨#[110,111,116,101]⟩:ByteArray),(⟨#[97,95,98,32,126]⟩:ByteArray)]:List ByteArray) r1.1).bind fun c2=>
 (some (c2,r1.2):Option (ByteArray×SrcF))
theorem Zph (p0:SrcF) (r:ByteArray×SrcF) (h:Zks p0=some r):Contract Tryz.prog 217 [.ptr 0 (0,0) 0] (some (0,p0.cs)) (.str r.1) (r.2).cs:=by
 refine Zbx (R:=fun r=>.str r.1) (O:=fun r=>(r.2).cs) h mix Tryz.func217 (by kernel_rfl) rfl (by kernel_rfl) fun r h=>?_
 unfold Zks at h
 refine Zh ?_
 refine rg ?_
 refine rg ?_
 refine aO h (Zy _ _) fun r1 h=>?_
 obtain ⟨c2,h2,h⟩:=bnd h
 refine Zpa (p:=PV.str) rfl h2 rfl rfl rfl rfl rfl (Zh ?_)
 cases h
 exact Zhi rfl rfl rfl rfl rfl
end Go.Proofs.YtjoneoobolnnbaaGreatDoor
namespace Go.Proofs.YtjoneoobolnnbaaGreatDoor
def Zxv:ByteArray:=⟨#[97,108,108,111,119,32,114,101,97,100,32,97,108,108,32,60,97,108,108,62,10,97,108,108,111,119,32,101,100,105,116,32,97,108,108,32,60,97,108,108,62,10,97,108,108,111,119,32,109,111,118,101,32,97,108,108,32,60,97,108,108,62,10,97,108,108,111,119,32,100,101,108,101,116,101,32,97,108,108,32,60,97,108,108,62,10,97,108,108,111,119,32,114,101,118,105,101,119,32,97,108,108,32,60,97,108,108,62,10]⟩
def Zxw:ByteArray:=⟨#[97,108,108,111,119,32,114,101,97,100,32,97,108,108,32,60,97,108,108,62,10,97,108,108,111,119,32,101,100,105,116,32,97,108,108,32,60,97,108,108,62,10,97,108,108,111,119,32,109,111,118,101,32,97,108,108,32,60,97,108,108,62,10,97,108,108,111,119,32,100,101,108,101,116,101,32,97,108,108,32,60,97,108,108,62,10,97,108,108,111,119,32,114,101,118,105,101,119,32,97,108,108,32,60,97,108,108,62,10,103,114,111,117,112,32,115,116,97,102,102,32,97,110,110,10,100,101,110,121,32,114,101,97,100,32,97,108,108,32,65,10,97,108,108,111,119,32,114,101,97,100,32,115,116,97,102,102,32,65,47,67,10]⟩
def Zxx:ByteArray:=⟨#[97,108,108,111,119,32,114,101,97,100,32,97,108,108,32,60,97,108,108,62,10,97,108,108,111,119,32,101,100,105,116,32,97,108,108,32,60,97,108,108,62,10,97,108,108,111,119,32,109,111,118,101,32,97,108,108,32,60,97,108,108,62,10,97,108,108,111,119,32,100,101,108,101,116,101,32,97,108,108,32,60,97,108,108,62,10,97,108,108,111,119,32,114,101,118,105,101,119,32,97,108,108,32,60,97,108,108,62,10,103,114,111,117,112,32,115,116,97,102,102,32,97,110,110,10,103,117,97,114,100,32,115,116,97,102,102,32,65,32,124,32,83,10,115,116,114,105,99,116,32,115,116,97,102,102,32,84,101,109,112,108,97,116,101,58,84,10,103,117,97,114,100,32,115,116,97,102,102,32,66,10]⟩
def Zxy:ByteArray:=⟨#[103,114,111,117,112,32,115,116,97,102,102,32,97,110,110,32,64,109,111,114,101,10,103,114,111,117,112,32,109,111,114,101,32,98,111,98,10,97,108,108,111,119,32,114,101,97,100,32,97,108,108,32,60,77,97,105,110,62,10,97,108,108,111,119,32,114,101,97,100,32,97,108,108,32,60,84,101,109,112,108,97,116,101,62,10,97,108,108,111,119,32,114,101,97,100,32,97,108,108,32,60,67,97,116,101,103,111,114,121,62,10,97,108,108,111,119,32,101,100,105,116,32,117,115,101,114,115,32,60,77,97,105,110,62,10,97,108,108,111,119,32,101,100,105,116,32,115,116,97,102,102,32,60,67,97,116,101,103,111,114,121,62,10,97,108,108,111,119,32,114,101,118,105,101,119,32,115,116,97,102,102,32,60,97,108,108,62,10,97,108,108,111,119,32,109,111,118,101,32,115,116,97,102,102,32,60,97,108,108,62,10,97,108,108,111,119,32,100,101,108,101,116,101,32,115,116,97,102,102,32,60,97,108,108,62,10,97,108,108,111,119,32,114,101,97,100,32,115,116,97,102,102,32,60,97,108,108,62,10,97,108,108,111,119,32,101,100,105,116,32,115,116,97,102,102,32,60,97,108,108,62,10]⟩
def Zxz:ByteArray:=⟨#[97,108,108,111,119,32,114,101,97,100,32,97,108,108,32,60,97,108,108,62,10,97,108,108,111,119,32,101,100,105,116,32,97,108,108,32,60,97,108,108,62,10,97,108,108,111,119,32,109,111,118,101,32,97,108,108,32,60,97,108,108,62,10,97,108,108,111,119,32,100,101,108,101,116,101,32,97,108,108,32,60,97,108,108,62,10,97,108,108,111,119,32,114,101,118,105,101,119,32,97,108,108,32,60,97,108,108,62,10,100,101,110,121,32,114,101,97,100,32,97,108,108,32,66,10,100,101,110,121,32,114,101,97,100,32,97,108,108,32,67,97,116,101,103,111,114,121,58,89,10]⟩
def ZxA:ByteArray:=⟨#[97,108,108,111,119,32,114,101,97,100,32,97,108,108,32,60,97,108,108,62,10,97,108,108,111,119,32,101,100,105,116,32,97,108,108,32,60,97,108,108,62,10,97,108,108,111,119,32,109,111,118,101,32,97,108,108,32,60,97,108,108,62,10,97,108,108,111,119,32,100,101,108,101,116,101,32,97,108,108,32,60,97,108,108,62,10,97,108,108,111,119,32,114,101,118,105,101,119,32,97,108,108,32,60,97,108,108,62,10,100,101,110,121,32,101,100,105,116,32,97,108,108,32,66,10,100,101,110,121,32,114,101,97,100,32,117,115,101,114,115,32,68,10]⟩
def ZxB:ByteArray:=⟨#[97,108,108,111,119,32,114,101,97,100,32,97,108,108,32,60,97,108,108,62,10,97,108,108,111,119,32,101,100,105,116,32,97,108,108,32,60,97,108,108,62,10,97,108,108,111,119,32,109,111,118,101,32,97,108,108,32,60,97,108,108,62,10,97,108,108,111,119,32,100,101,108,101,116,101,32,97,108,108,32,60,97,108,108,62,10,97,108,108,111,119,32,114,101,118,105,101,119,32,97,108,108,32,60,97,108,108,62,10]⟩
def ZxC:ByteArray:=⟨#[97,108,108,111,119,32,114,101,97,100,32,97,108,108,32,60,97,108,108,62,10,97,108,108,111,119,32,101,100,105,116,32,97,108,108,32,60,97,108,108,62,10,97,108,108,111,119,32,109,111,118,101,32,97,108,108,32,60,97,108,108,62,10,97,108,108,111,119,32,100,101,108,101,116,101,32,97,108,108,32,60,97,108,108,62,10,97,108,108,111,119,32,114,101,118,105,101,119,32,97,108,108,32,60,97,108,108,62,10,103,114,111,117,112,32,115,116,97,102,102,32,97,110,110,10,100,101,110,121,32,114,101,118,105,101,119,32,97,108,108,32,60,97,108,108,62,10,97,108,108,111,119,32,114,101,118,105,101,119,32,115,116,97,102,102,32,60,77,97,105,110,62,10,103,117,97,114,100,32,115,116,97,102,102,32,65,10,103,117,97,114,100,32,115,116,97,102,102,32,68,10]⟩
def policyG:List ByteArray:=[Zxv,Zxw,Zxx,Zxy,Zxz,ZxA,ZxB,ZxC]
def Zwv:List ByteArray:=[(⟨#[112,108,97,105,110,32,119,111,114,100,115,32]⟩:ByteArray),(⟨#[91,91,65,93,93,32]⟩:ByteArray),(⟨#[91,91,66,124,98,101,101,93,93,32]⟩:ByteArray),(⟨#[91,91,67,97,116,101,103,111,114,121,58,88,93,93]⟩:ByteArray),(⟨#[91,91,67,97,116,101,103,111,114,121,58,88,124,107,93,93]⟩:ByteArray),(⟨#[91,91,67,97,116,101,103,111,114,121,58,89,93,93]⟩:ByteArray),(⟨#[123,123,116,124,49,125,125]⟩:ByteArray),(⟨#[123,123,58,66,125,125,32]⟩:ByteArray),(⟨#[123,123,58,65,47,67,125,125]⟩:ByteArray),(⟨#[123,123,35,105,102,101,120,105,115,116,58,66,124,121,101,115,124,110,111,125,125,32]⟩:ByteArray),(⟨#[123,123,35,105,102,101,120,105,115,116,58,68,124,121,101,115,124,110,111,125,125]⟩:ByteArray),(⟨#[123,123,35,109,101,109,98,101,114,115,58,88,125,125,32]⟩:ByteArray),(⟨#[123,123,35,100,97,116,101,58,89,45,109,45,100,125,125,32]⟩:ByteArray),(⟨#[123,123,35,100,97,116,101,58,72,58,105,125,125,32]⟩:ByteArray),(⟨#[123,123,35,114,105,103,104,116,58,101,100,105,116,124,65,124,101,124,110,125,125,32]⟩:ByteArray),(⟨#[123,123,35,114,101,118,105,115,105,111,110,58,65,125,125,32]⟩:ByteArray),(⟨#[10,61,61,32,83,32,61,61,10,98,111,100,121,10]⟩:ByteArray),(⟨#[10,61,61,32,82,32,61,61,10,114,101,115,116,10]⟩:ByteArray),(⟨#[60,110,111,105,110,99,108,117,100,101,62,123,123,116,125,125,60,47,110,111,105,110,99,108,117,100,101,62]⟩:ByteArray),(⟨#[60,105,110,99,108,117,100,101,111,110,108,121,62,91,91,68,93,93,60,47,105,110,99,108,117,100,101,111,110,108,121,62]⟩:ByteArray),(⟨#[123,123,123,49,124,100,125,125,125,32]⟩:ByteArray),(⟨#[10,42,32,105,116,101,109,10]⟩:ByteArray),(⟨#[115,101,99,114,101,116,32]⟩:ByteArray),(⟨#[91,91,84,101,109,112,108,97,116,101,58,84,93,93]⟩:ByteArray),(⟨#[123,123,58,67,97,116,101,103,111,114,121,58,89,125,125]⟩:ByteArray),(⟨#[119,111,114,100,115,32,91,91,68,93,93,32,119,111,114,100,115]⟩:ByteArray),(⟨#[39,39,120,39,39,32]⟩:ByteArray),(⟨#[123,123,35,109,101,109,98,101,114,115,58,89,125,125]⟩:ByteArray)]
end Go.Proofs.YtjoneoobolnnbaaGreatDoor
namespace Go.Proofs.YtjoneoobolnnbaaGreatDoor
open VL
def Zii (p0:SrcF):Option (ByteArray×SrcF):=
 (ZA p0 8).bind fun r1=>
 (atI policyG r1.1).bind fun c2=>
 (some (c2,r1.2):Option (ByteArray×SrcF))
theorem Zrw (p0:SrcF) (r:ByteArray×SrcF) (h:Zii p0=some r):Contract Tryz.prog 63 [.ptr 0 (0,0) 0] (some (0,p0.cs)) (.str r.1) (r.2).cs:=by
 refine Zbx (R:=fun r=>.str r.1) (O:=fun r=>(r.2).cs) h mix Tryz.func63 (by kernel_rfl) rfl (by kernel_rfl) fun r h=>?_
 unfold Zii at h
 refine Zh ?_
 refine rg ?_
 refine rg ?_
 refine aO h (Zy _ _) fun r1 h=>?_
 obtain ⟨c2,h2,h⟩:=bnd h
 refine Zpa (p:=PV.str) rfl h2 rfl rfl rfl rfl rfl (Zh ?_)
 cases h
 exact Zhi rfl rfl rfl rfl rfl
def Zko (p0:SrcF):Option (ByteArray×SrcF):=
 (ZA p0 28).bind fun r1=>
 (atI Zwv r1.1).bind fun c2=>
 (some (c2,r1.2):Option (ByteArray×SrcF))
theorem Zs8 (p0:SrcF) (r:ByteArray×SrcF) (h:Zko p0=some r):Contract Tryz.prog 48 [.ptr 0 (0,0) 0] (some (0,p0.cs)) (.str r.1) (r.2).cs:=by
 refine Zbx (R:=fun r=>.str r.1) (O:=fun r=>(r.2).cs) h mix Tryz.func48 (by kernel_rfl) rfl (by kernel_rfl) fun r h=>?_
 unfold Zko at h
 refine Zh ?_
 refine rg ?_
 refine rg ?_
 refine aO h (Zy _ _) fun r1 h=>?_
 obtain ⟨c2,h2,h⟩:=bnd h
 refine Zpa (p:=PV.str) rfl h2 rfl rfl rfl rfl rfl (Zh ?_)
 cases h
 exact Zhi rfl rfl rfl rfl rfl
def Zij (p0:SrcF):Option (ByteArray×SrcF):=
 (ZA p0 12).bind fun r1=>
 letk (fun (x6:ByteArray) (x7:List Int) (x8:Int) (x9:Int)=>
  (ZA (⟨x7,x8,x9⟩:SrcF) 5).bind fun r10=>
  ZE Zaj (fun f3 ((x32,x33,x34,x35,x36):ByteArray×Int×(List Int)×Int×Int)=>
   if (decide (0<x33)) then
    (Zko (⟨x34,x35,x36⟩:SrcF)).bind fun r43=>
    (Zns x32 r43.1).bind fun s44=>
    f3 (s44,(w64 (x33 - 1)),r43.2.l,r43.2.pos,r43.2.seed)
   else
   (some (x32,(⟨x34,x35,x36⟩:SrcF)):Option (ByteArray×SrcF))) (x6,r10.1,r10.2.l,r10.2.pos,r10.2.seed)) fun k1=>
 if (decide (r1.1=0)) then
  (ZA r1.2 3).bind fun r45=>
  (atI ([(⟨#[66]⟩:ByteArray),(⟨#[65]⟩:ByteArray),(⟨#[84,101,109,112,108,97,116,101,58,84]⟩:ByteArray)]:List ByteArray) r45.1).bind fun c46=>
  (Zns (⟨#[35,82,69,68,73,82,69,67,84,32,91,91]⟩:ByteArray) c46).bind fun s47=>
  (Zns s47 (⟨#[93,93,32]⟩:ByteArray)).bind fun s48=>
  k1 s48 r45.2.l r45.2.pos r45.2.seed
 else
 k1 (⟨#[]⟩:ByteArray) r1.2.l r1.2.pos r1.2.seed
theorem Zkp (p0:SrcF) (r:ByteArray×SrcF) (h:Zij p0=some r):Contract Tryz.prog 25 [.ptr 0 (0,0) 0] (some (0,p0.cs)) (.str r.1) (r.2).cs:=by
 refine Zbx (R:=fun r=>.str r.1) (O:=fun r=>(r.2).cs) h mix Tryz.func25 (by kernel_rfl) rfl (by kernel_rfl) fun r h=>?_
 unfold Zij at h
 refine Zh ?_
 refine rg ?_
 refine rg ?_
 refine rg ?_
 refine aO h (Zy _ _) fun r1 h=>?_
 refine Zax h fun k1 hk1 h=>?_
 refine ZaO (α:=ByteArray×(List Int)×Int×Int) (fun a _=>mkS [(0,.ptr 0 (0,0) 0),(3,.str a.1)] [(0,some ((0,0),.box [.sl (List.map csI a.2.1),.int .i64 a.2.2.1,.int .u64 a.2.2.2]))] 2) (fun a=>k1 a.1 a.2.1 a.2.2.1 a.2.2.2=some r) (Zh ?_) (fun a _ h=>?_)
 ·refine cS h rfl (fun h=>?_) fun h=>?_
  ·refine rg ?_
   refine aO h (Zy _ _) fun r45 h=>?_
   obtain ⟨c46,h32,h⟩:=bnd h
   refine Zpa (p:=PV.str) rfl h32 rfl rfl rfl rfl rfl (Zh ?_)
   refine sT h fun s47 h=>?_
   refine sT h fun s48 h=>?_
   exact jn (s48,r45.2.l,r45.2.pos,r45.2.seed) h (sR [])
  exact jn ((⟨#[]⟩:ByteArray),r1.2.l,r1.2.pos,r1.2.seed) h (sR [])
 obtain ⟨x6,x7,x8,x9⟩:=a
 subst hk1
 dsimp only at h ⊢
 refine Zh ?_
 refine rg ?_
 refine aO h (Zy _ _) fun r10 h=>?_
 refine bl ?_
 refine Zn h fun f3 mf3 hf3 h=>?_
 refine Zk (α:=Nat×(ByteArray×Int×(List Int)×Int×Int)) (fun a _=>mkS [(0,.ptr 0 (0,0) 0),(3,.str a.2.1),(4,.int .i64 a.2.2.1)] [(0,some ((0,0),.box [.sl (List.map csI a.2.2.2.1),.int .i64 a.2.2.2.2.1,.int .u64 a.2.2.2.2.2]))] 2) (fun a=>ZE a.1 f3 a.2=some r) (fun a=>a.1) (mf3,x6,r10.1,r10.2.l,r10.2.pos,r10.2.seed) 2 h (sR []) (fun a _ h=>?_)
 obtain ⟨mf3,x32,x33,x34,x35,x36⟩:=a
 obtain ⟨mf3,rfl,h⟩:=Zo hf3 h
 dsimp only at h ⊢
 refine Zh ?_
 refine rg ?_
 refine cS h rfl (fun h=>?_) fun h=>?_
 ·refine bl ?_
  refine rg ?_
  refine aO h (Zs8 _) fun r43 h=>?_
  refine sT h fun s44 h=>?_
  refine rg ?_
  exact rn (mf3,s44,(w64 (x33 - 1)),r43.2.l,r43.2.pos,r43.2.seed) h (sR [])
 refine rg ?_
 cases h
 exact Zhi rfl rfl rfl rfl rfl
end Go.Proofs.YtjoneoobolnnbaaGreatDoor
