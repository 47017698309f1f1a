/- Functions of the program as Lean functions. Written by fxgen.py. | Functions of the program as Lean functions. Written by fxgen.py. | Functions of the program as Lean functions. Written by fxgen.py. -/
import Derived.Test.YtjoneoobolnnbaaGreatDoorCF03
import Derived.Test.YtjoneoobolnnbaaGreatDoorCF04
set_option linter.unusedVariables false
set_option maxHeartbeats 4000000
set_option maxRecDepth 100000
namespace Go.Proofs.YtjoneoobolnnbaaGreatDoor
open VL
def Ze3 (p0:Int) (p1:Int):Option Int:=
 (Zvj .i64 p0 p1).bind fun q1=>
 letk (fun (x2:Int)=>
  (some x2:Option Int)) fun k1=>
 if (decide (q1<0)) then
  k1 (w64 (q1+p1))
 else
 k1 q1
theorem ZhT (p0:Int) (p1:Int) (r:Int) (hF:Ze3 p0 p1=some r):Zb Tryz.prog 15 [.int .i64 p0,.int .i64 p1] (.int .i64 r):=by
 refine cF (fun r=>.int .i64 r) hF mix Tryz.func15 fun r hF=>?_
 unfold Ze3 at hF
 refine Za ?_
 refine rg ?_
 refine rg ?_
 obtain ⟨q1,h1,hF⟩:=bnd hF
 refine ZtL rfl h1 rfl rfl (Za ?_)
 refine rg ?_
 refine jL hF (fun x2=>mkS [(5,.int .i64 x2)] [] 2) (fun k1 hF=>?_) fun x2 hF=>?_
 ·refine cS hF rfl (fun hF=>?_) fun hF=>?_
  ·refine rg ?_
   exact jn (w64 (q1+p1)) hF (sR [])
  exact jn q1 hF (sR [])
 refine rg ?_
 cases hF
 exact rQ
def ZhU (p0:List Int):Option SrcF:=
 ZK Zax (fun f7 ((x23,x24):Int×Int)=>
  letk (fun (x30:Bool)=>
   if x30 then
    (atI p0 x23).bind fun e33=>
    (ZlG .u64 (IntKind.wrap .u64 ((ZqU .xor .u64 x24 (IntKind.wrap .u64 e33)) * 18397679294719823053)) 33).bind fun q34=>
    f7 ((w64 (x23+1)),(ZqU .xor .u64 (IntKind.wrap .u64 ((ZqU .xor .u64 x24 (IntKind.wrap .u64 e33)) * 18397679294719823053)) q34))
   else
   (some (⟨p0,0,x24⟩:SrcF):Option SrcF)) fun k8=>
  if (decide (x23<(p0.length:Int))) then
   k8 (decide (x23<64))
  else
  k8 false) (0,11400714819323198485)
theorem Zme (p0:List Int) (r:SrcF) (hF:ZhU p0=some r):ContractN Tryz.prog 26 [.sl (List.map csI p0)] (.box r.cs):=by
 refine Zg2 (O:=fun r=>.box r.cs) hF mix Tryz.func26 (by kernel_rfl) rfl (by kernel_rfl) fun r hF=>?_
 unfold ZhU at hF
 refine Za ?_
 refine rg ?_
 refine rg ?_
 refine rg ?_
 refine bl ?_
 refine Zn hF fun f7 mf7 hf7 hF=>?_
 refine Zl (α:=Nat×(Int×Int)) (fun a _=>mkS [(0,.sl (List.map csI p0)),(3,.ptr 7 (1,7) 0),(4,.int .i64 a.2.1)] [(7,some ((1,7),.box [.sl (List.map csI p0),.int .i64 0,.int .u64 a.2.2]))] 2) (fun a=>ZK a.1 f7 a.2=some r) (fun a=>a.1) (mf7,0,11400714819323198485) 2 hF (sR [(7,2,2)]) (fun a _ hF=>?_)
 obtain ⟨mf7,x23,x24⟩:=a
 obtain ⟨mf7,rfl,hF⟩:=Zo hf7 hF
 dsimp only at hF ⊢
 refine Za ?_
 refine jL hF (fun x30=>mkS [(0,.sl (List.map csI p0)),(3,.ptr 7 (1,7) 0),(4,.int .i64 x23),(15,.bool x30)] [(7,some ((1,7),.box [.sl (List.map csI p0),.int .i64 0,.int .u64 x24]))] 2) (fun k8 hF=>?_) fun x30 hF=>?_
 ·refine rg ?_
  refine Zr rfl (M:=p0) (f:=csI) rfl (Za ?_)
  refine kS 12 hF rfl (fun hF=>?_) fun hF=>?_
  ·exact jn (decide (x23<64)) hF (sR [(7,1,7)])
  iterate 2 refine Zh rfl (Za ?_)
  exact jn false hF (sR [(7,1,7)])
 refine cS hF rfl (fun hF=>?_) fun hF=>?_
 ·refine bl ?_
  refine rg ?_
  obtain ⟨e33,h23,hF⟩:=bnd hF
  refine Zk (f:=csI) rfl h23 rfl rfl rfl (Za ?_)
  refine rg ?_
  obtain ⟨q34,h24,hF⟩:=bnd hF
  refine ZhA rfl h24 rfl rfl (Za ?_)
  refine rg ?_
  exact rn (mf7,(w64 (x23+1)),(ZqU .xor .u64 (IntKind.wrap .u64 ((ZqU .xor .u64 x24 (IntKind.wrap .u64 e33)) * 18397679294719823053)) q34)) hF (sR [(7,1,7)])
 refine rg ?_
 cases hF
 exact Zqu (t:=7) (g:=(1,7)) (o2:=.box [.sl (List.map csI p0),.int .i64 0,.int .u64 x24]) rfl rfl rfl
def ZA (p0:SrcF) (p1:Int):Option (Int×SrcF):=
 if (decide (p0.pos<(p0.l.length:Int))) then
  (atI p0.l (w64 ((w64 (p0.pos+1)) - 1))).bind fun e3=>
  (Ze3 e3 p1).bind fun r4=>
  (some (r4,(⟨p0.l,(w64 (p0.pos+1)),p0.seed⟩:SrcF)):Option (Int×SrcF))
 else
 (ZlG .u64 (IntKind.wrap .u64 ((IntKind.wrap .u64 (p0.seed * 6364136223846793005))+1442695040888963407)) 33).bind fun q5=>
 (Zvj .u64 q5 (IntKind.wrap .u64 p1)).bind fun q6=>
 (some ((IntKind.wrap .i64 q6),(⟨p0.l,p0.pos,(IntKind.wrap .u64 ((IntKind.wrap .u64 (p0.seed * 6364136223846793005))+1442695040888963407))⟩:SrcF)):Option (Int×SrcF))
theorem ZC (p0:SrcF) (p1:Int) (r:Int×SrcF) (hF:ZA p0 p1=some r):Contract Tryz.prog 40 [.ptr 0 (0,0) 0,.int .i64 p1] (some (0,p0.cs)) (.int .i64 r.1) (r.2).cs:=by
 refine ZaX (R:=fun r=>.int .i64 r.1) (O:=fun r=>(r.2).cs) hF mix Tryz.func40 (by kernel_rfl) rfl (by kernel_rfl) fun r hF=>?_
 unfold ZA at hF
 refine Za ?_
 refine rg ?_
 refine rg ?_
 refine Zr rfl (M:=p0.l) (f:=csI) rfl (Za ?_)
 refine cS hF rfl (fun hF=>?_) fun hF=>?_
 ·refine rg ?_
  refine rg ?_
  obtain ⟨e3,h3,hF⟩:=bnd hF
  refine Zk (f:=csI) rfl h3 rfl rfl rfl (Za ?_)
  obtain ⟨r4,h4,hF⟩:=bnd hF
  refine Zf (ZhT _ _ _ h4) rfl rfl (Za ?_)
  cases hF
  exact Zfx rfl rfl rfl rfl rfl
 refine rg ?_
 refine rg ?_
 obtain ⟨q5,h5,hF⟩:=bnd hF
 refine ZhA rfl h5 rfl rfl (Za ?_)
 obtain ⟨q6,h6,hF⟩:=bnd hF
 refine ZtL rfl h6 rfl rfl (Za ?_)
 cases hF
 exact Zfx rfl rfl rfl rfl rfl
def ZfJ:Option (List Title):=
 (some [(⟨0,(⟨#[65]⟩:ByteArray)⟩:Title),(⟨0,(⟨#[66]⟩:ByteArray)⟩:Title),(⟨0,(⟨#[65,47,67]⟩:ByteArray)⟩:Title),(⟨3,(⟨#[84]⟩:ByteArray)⟩:Title),(⟨4,(⟨#[88]⟩:ByteArray)⟩:Title),(⟨4,(⟨#[89]⟩:ByteArray)⟩:Title),(⟨2,(⟨#[65,110,110]⟩:ByteArray)⟩:Title),(⟨0,(⟨#[68]⟩:ByteArray)⟩:Title)]:Option (List Title))
theorem Zjf  (r:List Title) (hF:ZfJ=some r):Zb Tryz.prog 16 [] (.sl (List.map Title.cs r)):=by
 refine cF (fun r=>.sl (List.map Title.cs r)) hF mix Tryz.func16 fun r hF=>?_
 unfold ZfJ at hF
 refine Za ?_
 refine rg ?_
 refine rg ?_
 refine Zw (M:=([(⟨0,(⟨#[65]⟩:ByteArray)⟩:Title),(⟨0,(⟨#[66]⟩:ByteArray)⟩:Title),(⟨0,(⟨#[65,47,67]⟩:ByteArray)⟩:Title),(⟨3,(⟨#[84]⟩:ByteArray)⟩:Title),(⟨4,(⟨#[88]⟩:ByteArray)⟩:Title),(⟨4,(⟨#[89]⟩:ByteArray)⟩:Title),(⟨2,(⟨#[65,110,110]⟩:ByteArray)⟩:Title),(⟨0,(⟨#[68]⟩:ByteArray)⟩:Title)]:List Title)) (f:=Title.cs) rfl rfl rfl rfl (Nat.le_of_ble_eq_true rfl) rfl (Za ?_)
 cases hF
 exact rQ
def Ze4:Option Title:=
 (some (⟨5,(⟨#[80,111,108,105,99,121]⟩:ByteArray)⟩:Title):Option Title)
theorem Zjg  (r:Title) (hF:Ze4=some r):Zb Tryz.prog 67 [] (r.pv):=by
 refine cF (fun r=>r.pv) hF mix Tryz.func67 fun r hF=>?_
 unfold Ze4 at hF
 refine Za ?_
 refine rg ?_
 refine rg ?_
 cases hF
 exact rQ
def Ze5 (p0:SrcF):Option (Title×SrcF):=
 (ZfJ).bind fun r1=>
 (ZA p0 8).bind fun r2=>
 (atI r1 r2.1).bind fun e3=>
 (some (e3,r2.2):Option (Title×SrcF))
theorem ZhV (p0:SrcF) (r:Title×SrcF) (hF:Ze5 p0=some r):Contract Tryz.prog 41 [.ptr 0 (0,0) 0] (some (0,p0.cs)) (r.1.pv) (r.2).cs:=by
 refine ZaX (R:=fun r=>r.1.pv) (O:=fun r=>(r.2).cs) hF mix Tryz.func41 (by kernel_rfl) rfl (by kernel_rfl) fun r hF=>?_
 unfold Ze5 at hF
 refine Za ?_
 refine rg ?_
 refine rg ?_
 obtain ⟨r1,h1,hF⟩:=bnd hF
 refine Zf (Zjf _ h1) rfl rfl (Za ?_)
 obtain ⟨r2,h2,hF⟩:=bnd hF
 refine Zac (ZC _ _ _ h2) rfl rfl rfl rfl rfl (Za ?_)
 obtain ⟨e3,h3,hF⟩:=bnd hF
 refine Zk (f:=Title.cs) rfl h3 rfl rfl rfl (Za ?_)
 cases hF
 exact Zfx rfl rfl rfl rfl rfl
def ZgX (p0:SrcF):Option (ByteArray×SrcF):=
 (ZA p0 5).bind fun r1=>
 (atI ([(⟨#[97,110,110]⟩:ByteArray),(⟨#[98,111,98]⟩:ByteArray),(⟨#[]⟩:ByteArray),(⟨#[99,121]⟩:ByteArray),(⟨#[97,110,110]⟩:ByteArray)]:List ByteArray) r1.1).bind fun c2=>
 (some (c2,r1.2):Option (ByteArray×SrcF))
theorem Zjh (p0:SrcF) (r:ByteArray×SrcF) (hF:ZgX p0=some r):Contract Tryz.prog 64 [.ptr 0 (0,0) 0] (some (0,p0.cs)) (.str r.1) (r.2).cs:=by
 refine ZaX (R:=fun r=>.str r.1) (O:=fun r=>(r.2).cs) hF mix Tryz.func64 (by kernel_rfl) rfl (by kernel_rfl) fun r hF=>?_
 unfold ZgX at hF
 refine Za ?_
 refine rg ?_
 refine rg ?_
 obtain ⟨r1,h1,hF⟩:=bnd hF
 refine Zac (ZC _ _ _ h1) rfl rfl rfl rfl rfl (Za ?_)
 obtain ⟨c2,h2,hF⟩:=bnd hF
 refine Zof (p:=PV.str) rfl h2 rfl rfl rfl rfl rfl (Za ?_)
 cases hF
 exact Zfx rfl rfl rfl rfl rfl
def Zle:Option (List ByteArray):=
 (some [(⟨#[]⟩:ByteArray),(⟨#[97,110,110]⟩:ByteArray),(⟨#[98,111,98]⟩:ByteArray),(⟨#[99,121]⟩:ByteArray)]:Option (List ByteArray))
theorem Zo9  (r:List ByteArray) (hF:Zle=some r):Zb Tryz.prog 14 [] (.sl (List.map csS r)):=by
 refine cF (fun r=>.sl (List.map csS r)) hF mix Tryz.func14 fun r hF=>?_
 unfold Zle at hF
 refine Za ?_
 refine rg ?_
 refine rg ?_
 refine Zw (M:=([(⟨#[]⟩:ByteArray),(⟨#[97,110,110]⟩:ByteArray),(⟨#[98,111,98]⟩:ByteArray),(⟨#[99,121]⟩:ByteArray)]:List ByteArray)) (f:=csS) rfl rfl rfl rfl (Nat.le_of_ble_eq_true rfl) rfl (Za ?_)
 cases hF
 exact rQ
def ZhW (p0:SrcF):Option (ByteArray×SrcF):=
 (ZA p0 3).bind fun r1=>
 (atI ([(⟨#[]⟩:ByteArray),(⟨#[110,111,116,101]⟩:ByteArray),(⟨#[97,95,98,32,126]⟩:ByteArray)]:List ByteArray) r1.1).bind fun c2=>
 (some (c2,r1.2):Option (ByteArray×SrcF))
theorem Zmf (p0:SrcF) (r:ByteArray×SrcF) (hF:ZhW p0=some r):Contract Tryz.prog 217 [.ptr 0 (0,0) 0] (some (0,p0.cs)) (.str r.1) (r.2).cs:=by
 refine ZaX (R:=fun r=>.str r.1) (O:=fun r=>(r.2).cs) hF mix Tryz.func217 (by kernel_rfl) rfl (by kernel_rfl) fun r hF=>?_
 unfold ZhW at hF
 refine Za ?_
 refine rg ?_
 refine rg ?_
 obtain ⟨r1,h1,hF⟩:=bnd hF
 refine Zac (ZC _ _ _ h1) rfl rfl rfl rfl rfl (Za ?_)
 obtain ⟨c2,h2,hF⟩:=bnd hF
 refine Zof (p:=PV.str) rfl h2 rfl rfl rfl rfl rfl (Za ?_)
 cases hF
 exact Zfx rfl rfl rfl rfl rfl
def Zgg (p0:SrcF):Option (ByteArray×SrcF):=
 (ZA p0 8).bind fun r1=>
 (atI ([(⟨#[97,108,108,111,119,32,114,101,97,100,32,97,108,108,32,60,97,108,108,62,10,97,108,108,111,119,32,101,100,105,116,32,97,108,108,32,60,97,108,108,62,10,97,108,108,111,119,32,109,111,118,101,32,97,108,108,32,60,97,108,108,62,10,97,108,108,111,119,32,100,101,108,101,116,101,32,97,108,108,32,60,97,108,108,62,10,97,108,108,111,119,32,114,101,118,105,101,119,32,97,108,108,32,60,97,108,108,62,10]⟩:ByteArray),(⟨#[97,108,108,111,119,32,114,101,97,100,32,97,108,108,32,60,97,108,108,62,10,97,108,108,111,119,32,101,100,105,116,32,97,108,108,32,60,97,108,108,62,10,97,108,108,111,119,32,109,111,118,101,32,97,108,108,32,60,97,108,108,62,10,97,108,108,111,119,32,100,101,108,101,116,101,32,97,108,108,32,60,97,108,108,62,10,97,108,108,111,119,32,114,101,118,105,101,119,32,97,108,108,32,60,97,108,108,62,10,103,114,111,117,112,32,115,116,97,102,102,32,97,110,110,10,100,101,110,121,32,114,101,97,100,32,97,108,108,32,65,10,97,108,108,111,119,32,114,101,97,100,32,115,116,97,102,102,32,65,47,67,10]⟩:ByteArray),(⟨#[97,108,108,111,119,32,114,101,97,100,32,97,108,108,32,60,97,108,108,62,10,97,108,108,111,119,32,101,100,105,116,32,97,108,108,32,60,97,108,108,62,10,97,108,108,111,119,32,109,111,118,101,32,97,108,108,32,60,97,108,108,62,10,97,108,108,111,119,32,100,101,108,101,116,101,32,97,108,108,32,60,97,108,108,62,10,97,108,108,111,119,32,114,101,118,105,101,119,32,97,108,108,32,60,97,108,108,62,10,103,114,111,117,112,32,115,116,97,102,102,32,97,110,110,10,103,117,97,114,100,32,115,116,97,102,102,32,65,32,124,32,83,10,115,116,114,105,99,116,32,115,116,97,102,102,32,84,101,109,112,108,97,116,101,58,84,10,103,117,97,114,100,32,115,116,97,102,102,32,66,10]⟩:ByteArray),(⟨#[103,114,111,117,112,32,115,116,97,102,102,32,97,110,110,32,64,109,111,114,101,10,103,114,111,117,112,32,109,111,114,101,32,98,111,98,10,97,108,108,111,119,32,114,101,97,100,32,97,108,108,32,60,77,97,105,110,62,10,97,108,108,111,119,32,114,101,97,100,32,97,108,108,32,60,84,101,109,112,108,97,116,101,62,10,97,108,108,111,119,32,114,101,97,100,32,97,108,108,32,60,67,97,116,101,103,111,114,121,62,10,97,108,108,111,119,32,101,100,105,116,32,117,115,101,114,115,32,60,77,97,105,110,62,10,97,108,108,111,119,32,101,100,105,116,32,115,116,97,102,102,32,60,67,97,116,101,103,111,114,121,62,10,97,108,108,111,119,32,114,101,118,105,101,119,32,115,116,97,102,102,32,60,97,108,108,62,10,97,108,108,111,119,32,109,111,118,101,32,115,116,97,102,102,32,60,97,108,108,62,10,97,108,108,111,119,32,100,101,108,101,116,101,32,115,116,97,102,102,32,60,97,108,108,62,10,97,108,108,111,119,32,114,101,97,100,32,115,116,97,102,102,32,60,97,108,108,62,10,97,108,108,111,119,32,101,100,105,116,32,115,116,97,102,102,32,60,97,108,108,62,10]⟩:ByteArray),(⟨#[97,108,108,111,119,32,114,101,97,100,32,97,108,108,32,60,97,108,108,62,10,97,108,108,111,119,32,101,100,105,116,32,97,108,108,32,60,97,108,108,62,10,97,108,108,111,119,32,109,111,118,101,32,97,108,108,32,60,97,108,108,62,10,97,108,108,111,119,32,100,101,108,101,116,101,32,97,108,108,32,60,97,108,108,62,10,97,108,108,111,119,32,114,101,118,105,101,119,32,97,108,108,32,60,97,108,108,62,10,100,101,110,121,32,114,101,97,100,32,97,108,108,32,66,10,100,101,110,121,32,114,101,97,100,32,97,108,108,32,67,97,116,101,103,111,114,121,58,89,10]⟩:ByteArray),(⟨#[97,108,108,111,119,32,114,101,97,100,32,97,108,108,32,60,97,108,108,62,10,97,108,108,111,119,32,101,100,105,116,32,97,108,108,32,60,97,108,108,62,10,97,108,108,111,119,32,109,111,118,101,32,97,108,108,32,60,97,108,108,62,10,97,108,108,111,119,32,100,101,108,101,116,101,32,97,108,108,32,60,97,108,108,62,10,97,108,108,111,119,32,114,101,118,105,101,119,32,97,108,108,32,60,97,108,108,62,10,100,101,110,121,32,101,100,105,116,32,97,108,108,32,66,10,100,101,110,121,32,114,101,97,100,32,117,115,101,114,115,32,68,10]⟩:ByteArray),(⟨#[97,108,108,111,119,32,114,101,97,100,32,97,108,108,32,60,97,108,108,62,10,97,108,108,111,119,32,101,100,105,116,32,97,108,108,32,60,97,108,108,62,10,97,108,108,111,119,32,109,111,118,101,32,97,108,108,32,60,97,108,108,62,10,97,108,108,111,119,32,100,101,108,101,116,101,32,97,108,108,32,60,97,108,108,62,10,97,108,108,111,119,32,114,101,118,105,101,119,32,97,108,108,32,60,97,108,108,62,10]⟩:ByteArray),(⟨#[97,108,108,111,119,32,114,101,97,100,32,97,108,108,32,60,97,108,108,62,10,97,108,108,111,119,32,101,100,105,116,32,97,108,108,32,60,97,108,108,62,10,97,108,108,111,119,32,109,111,118,101,32,97,108,108,32,60,97,108,108,62,10,97,108,108,111,119,32,100,101,108,101,116,101,32,97,108,108,32,60,97,108,108,62,10,97,108,108,111,119,32,114,101,118,105,101,119,32,97,108,108,32,60,97,108,108,62,10,103,114,111,117,112,32,115,116,97,102,102,32,97,110,110,10,100,101,110,121,32,114,101,118,105,101,119,32,97,108,108,32,60,97,108,108,62,10,97,108,108,111,119,32,114,101,118,105,101,119,32,115,116,97,102,102,32,60,77,97,105,110,62,10,103,117,97,114,100,32,115,116,97,102,102,32,65,10,103,117,97,114,100,32,115,116,97,102,102,32,68,10]⟩:ByteArray)]:List ByteArray) r1.1).bind fun c2=>
 (some (c2,r1.2):Option (ByteArray×SrcF))
theorem Zod (p0:SrcF) (r:ByteArray×SrcF) (hF:Zgg p0=some r):Contract Tryz.prog 63 [.ptr 0 (0,0) 0] (some (0,p0.cs)) (.str r.1) (r.2).cs:=by
 refine ZaX (R:=fun r=>.str r.1) (O:=fun r=>(r.2).cs) hF mix Tryz.func63 (by kernel_rfl) rfl (by kernel_rfl) fun r hF=>?_
 unfold Zgg at hF
 refine Za ?_
 refine rg ?_
 refine rg ?_
 obtain ⟨r1,h1,hF⟩:=bnd hF
 refine Zac (ZC _ _ _ h1) rfl rfl rfl rfl rfl (Za ?_)
 obtain ⟨c2,h2,hF⟩:=bnd hF
 refine Zof (p:=PV.str) rfl h2 rfl rfl rfl rfl rfl (Za ?_)
 cases hF
 exact Zfx rfl rfl rfl rfl rfl
def ZhO (p0:SrcF):Option (ByteArray×SrcF):=
 (ZA p0 28).bind fun r1=>
 (atI ([(⟨#[112,108,97,105,110,32,119,111,114,100,115,32]⟩:ByteArray),(⟨#[91,91,65,93,93,32]⟩:ByteArray),(⟨#[91,91,66,124,98,101,101,93,93,32]⟩:ByteArray),(⟨#[91,91,67,97,116,101,103,111,114,121,58,88,93,93]⟩:ByteArray),(⟨#[91,91,67,97,116,101,103,111,114,121,58,88,124,107,93,93]⟩:ByteArray),(⟨#[91,91,67,97,116,101,103,111,114,121,58,89,93,93]⟩:ByteArray),(⟨#[123,123,116,124,49,125,125]⟩:ByteArray),(⟨#[123,123,58,66,125,125,32]⟩:ByteArray),(⟨#[123,123,58,65,47,67,125,125]⟩:ByteArray),(⟨#[123,123,35,105,102,101,120,105,115,116,58,66,124,121,101,115,124,110,111,125,125,32]⟩:ByteArray),(⟨#[123,123,35,105,102,101,120,105,115,116,58,68,124,121,101,115,124,110,111,125,125]⟩:ByteArray),(⟨#[123,123,35,109,101,109,98,101,114,115,58,88,125,125,32]⟩:ByteArray),(⟨#[123,123,35,100,97,116,101,58,89,45,109,45,100,125,125,32]⟩:ByteArray),(⟨#[123,123,35,100,97,116,101,58,72,58,105,125,125,32]⟩:ByteArray),(⟨#[123,123,35,114,105,103,104,116,58,101,100,105,116,124,65,124,101,124,110,125,125,32]⟩:ByteArray),(⟨#[123,123,35,114,101,118,105,115,105,111,110,58,65,125,125,32]⟩:ByteArray),(⟨#[10,61,61,32,83,32,61,61,10,98,111,100,121,10]⟩:ByteArray),(⟨#[10,61,61,32,82,32,61,61,10,114,101,115,116,10]⟩:ByteArray),(⟨#[60,110,111,105,110,99,108,117,100,101,62,123,123,116,125,125,60,47,110,111,105,110,99,108,117,100,101,62]⟩:ByteArray),(⟨#[60,105,110,99,108,117,100,101,111,110,108,121,62,91,91,68,93,93,60,47,105,110,99,108,117,100,101,111,110,108,121,62]⟩:ByteArray),(⟨#[123,123,123,49,124,100,125,125,125,32]⟩:ByteArray),(⟨#[10,42,32,105,116,101,109,10]⟩:ByteArray),(⟨#[115,101,99,114,101,116,32]⟩:ByteArray),(⟨#[91,91,84,101,109,112,108,97,116,101,58,84,93,93]⟩:ByteArray),(⟨#[123,123,58,67,97,116,101,103,111,114,121,58,89,125,125]⟩:ByteArray),(⟨#[119,111,114,100,115,32,91,91,68,93,93,32,119,111,114,100,115]⟩:ByteArray),(⟨#[39,39,120,39,39,32]⟩:ByteArray),(⟨#[123,123,35,109,101,109,98,101,114,115,58,89,125,125]⟩:ByteArray)]:List ByteArray) r1.1).bind fun c2=>
 (some (c2,r1.2):Option (ByteArray×SrcF))
theorem ZpU (p0:SrcF) (r:ByteArray×SrcF) (hF:ZhO p0=some r):Contract Tryz.prog 48 [.ptr 0 (0,0) 0] (some (0,p0.cs)) (.str r.1) (r.2).cs:=by
 refine ZaX (R:=fun r=>.str r.1) (O:=fun r=>(r.2).cs) hF mix Tryz.func48 (by kernel_rfl) rfl (by kernel_rfl) fun r hF=>?_
 unfold ZhO at hF
 refine Za ?_
 refine rg ?_
 refine rg ?_
 obtain ⟨r1,h1,hF⟩:=bnd hF
 refine Zac (ZC _ _ _ h1) rfl rfl rfl rfl rfl (Za ?_)
 obtain ⟨c2,h2,hF⟩:=bnd hF
 refine Zof (p:=PV.str) rfl h2 rfl rfl rfl rfl rfl (Za ?_)
 cases hF
 exact Zfx rfl rfl rfl rfl rfl
def Zhj (p0:SrcF):Option (ByteArray×SrcF):=
 (ZA p0 12).bind fun r1=>
 letk (fun (x6:ByteArray) (x7:List Int) (x8:Int) (x9:Int)=>
  (ZA (⟨x7,x8,x9⟩:SrcF) 5).bind fun r10=>
  ZK Zax (fun f3 ((x32,x33,x34,x35,x36):ByteArray×Int×(List Int)×Int×Int)=>
   if (decide (0<x33)) then
    (ZhO (⟨x34,x35,x36⟩:SrcF)).bind fun r43=>
    (Zl7 x32 r43.1).bind fun s44=>
    f3 (s44,(w64 (x33 - 1)),r43.2.l,r43.2.pos,r43.2.seed)
   else
   (some (x32,(⟨x34,x35,x36⟩:SrcF)):Option (ByteArray×SrcF))) (x6,r10.1,r10.2.l,r10.2.pos,r10.2.seed)) fun k1=>
 if (decide (r1.1=0)) then
  (ZA r1.2 3).bind fun r45=>
  (atI ([(⟨#[66]⟩:ByteArray),(⟨#[65]⟩:ByteArray),(⟨#[84,101,109,112,108,97,116,101,58,84]⟩:ByteArray)]:List ByteArray) r45.1).bind fun c46=>
  (Zl7 (⟨#[35,82,69,68,73,82,69,67,84,32,91,91]⟩:ByteArray) c46).bind fun s47=>
  (Zl7 s47 (⟨#[93,93,32]⟩:ByteArray)).bind fun s48=>
  k1 s48 r45.2.l r45.2.pos r45.2.seed
 else
 k1 (⟨#[]⟩:ByteArray) r1.2.l r1.2.pos r1.2.seed
theorem Zkd (p0:SrcF) (r:ByteArray×SrcF) (hF:Zhj p0=some r):Contract Tryz.prog 25 [.ptr 0 (0,0) 0] (some (0,p0.cs)) (.str r.1) (r.2).cs:=by
 refine ZaX (R:=fun r=>.str r.1) (O:=fun r=>(r.2).cs) hF mix Tryz.func25 (by kernel_rfl) rfl (by kernel_rfl) fun r hF=>?_
 unfold Zhj at hF
 refine Za ?_
 refine rg ?_
 refine rg ?_
 refine rg ?_
 obtain ⟨r1,h1,hF⟩:=bnd hF
 refine Zac (ZC _ _ _ h1) rfl rfl rfl rfl rfl (Za ?_)
 refine Zar hF fun k1 hk1 hF=>?_
 refine ZaF (α:=ByteArray×(List Int)×Int×Int) (fun a _=>mkS [(0,.ptr 0 (0,0) 0),(3,.str a.1)] [(0,some ((0,0),.box [.sl (List.map csI a.2.1),.int .i64 a.2.2.1,.int .u64 a.2.2.2]))] 2) (fun a=>k1 a.1 a.2.1 a.2.2.1 a.2.2.2=some r) (Za ?_) (fun a _ hF=>?_)
 ·refine cS hF rfl (fun hF=>?_) fun hF=>?_
  ·refine rg ?_
   obtain ⟨r45,h31,hF⟩:=bnd hF
   refine Zac (ZC _ _ _ h31) rfl rfl rfl rfl rfl (Za ?_)
   obtain ⟨c46,h32,hF⟩:=bnd hF
   refine Zof (p:=PV.str) rfl h32 rfl rfl rfl rfl rfl (Za ?_)
   obtain ⟨s47,h33,hF⟩:=bnd hF
   refine Zes rfl h33 rfl rfl (Za ?_)
   obtain ⟨s48,h34,hF⟩:=bnd hF
   refine Zes rfl h34 rfl rfl (Za ?_)
   exact jn (s48,r45.2.l,r45.2.pos,r45.2.seed) hF (sR [])
  exact jn ((⟨#[]⟩:ByteArray),r1.2.l,r1.2.pos,r1.2.seed) hF (sR [])
 obtain ⟨x6,x7,x8,x9⟩:=a
 subst hk1
 dsimp only at hF ⊢
 refine Za ?_
 refine rg ?_
 obtain ⟨r10,h6,hF⟩:=bnd hF
 refine Zac (ZC _ _ _ h6) rfl rfl rfl rfl rfl (Za ?_)
 refine bl ?_
 refine Zn hF fun f3 mf3 hf3 hF=>?_
 refine Zl (α:=Nat×(ByteArray×Int×(List Int)×Int×Int)) (fun a _=>mkS [(0,.ptr 0 (0,0) 0),(3,.str a.2.1),(4,.int .i64 a.2.2.1)] [(0,some ((0,0),.box [.sl (List.map csI a.2.2.2.1),.int .i64 a.2.2.2.2.1,.int .u64 a.2.2.2.2.2]))] 2) (fun a=>ZK a.1 f3 a.2=some r) (fun a=>a.1) (mf3,x6,r10.1,r10.2.l,r10.2.pos,r10.2.seed) 2 hF (sR []) (fun a _ hF=>?_)
 obtain ⟨mf3,x32,x33,x34,x35,x36⟩:=a
 obtain ⟨mf3,rfl,hF⟩:=Zo hf3 hF
 dsimp only at hF ⊢
 refine Za ?_
 refine rg ?_
 refine cS hF rfl (fun hF=>?_) fun hF=>?_
 ·refine bl ?_
  refine rg ?_
  obtain ⟨r43,h29,hF⟩:=bnd hF
  refine Zac (ZpU _ _ h29) rfl rfl rfl rfl rfl (Za ?_)
  obtain ⟨s44,h30,hF⟩:=bnd hF
  refine Zes rfl h30 rfl rfl (Za ?_)
  refine rg ?_
  exact rn (mf3,s44,(w64 (x33 - 1)),r43.2.l,r43.2.pos,r43.2.seed) hF (sR [])
 refine rg ?_
 cases hF
 exact Zfx rfl rfl rfl rfl rfl
def Zdo (p0:SrcF) (p1:Int):Option ((List Revision)×SrcF):=
 (ZA p0 3).bind fun r1=>
 ZK Zax (fun f2 ((x48,x49,x50,x51,x52,x53):Int×Int×(List Int)×Int×Int×(List Revision))=>
  if (decide (0<x49)) then
   (ZgX (⟨x50,x51,x52⟩:SrcF)).bind fun r69=>
   (ZhW r69.2).bind fun r70=>
   (Zhj r70.2).bind fun r71=>
   (ZbY 72 x53 [(⟨(w64 ((x53.length:Int)+1)),r69.1,r70.1,r71.1,x48,0⟩:Revision)]).bind fun l72=>
   (ZA r71.2 3).bind fun r73=>
   f2 ((if (w64 (x48+r73.1))<p1 then (w64 (x48+r73.1)) else p1),(w64 (x49 - 1)),r73.2.l,r73.2.pos,r73.2.seed,l72)
  else
  (some (x53,(⟨x50,x51,x52⟩:SrcF)):Option ((List Revision)×SrcF))) (0,(w64 (1+r1.1)),r1.2.l,r1.2.pos,r1.2.seed,([]:List Revision))
theorem Zkx (p0:SrcF) (p1:Int) (r:(List Revision)×SrcF) (hF:Zdo p0 p1=some r):Contract Tryz.prog 218 [.ptr 0 (0,0) 0,.int .i64 p1] (some (0,p0.cs)) (.sl (List.map Revision.cs r.1)) (r.2).cs:=by
 refine ZaX (R:=fun r=>.sl (List.map Revision.cs r.1)) (O:=fun r=>(r.2).cs) hF mix Tryz.func218 (by kernel_rfl) rfl (by kernel_rfl) fun r hF=>?_
 unfold Zdo at hF
 refine Za ?_
 refine rg ?_
 refine rg ?_
 refine rg ?_
 refine rg ?_
 obtain ⟨r1,h1,hF⟩:=bnd hF
 refine Zac (ZC _ _ _ h1) rfl rfl rfl rfl rfl (Za ?_)
 refine bl ?_
 refine Zn hF fun f2 mf2 hf2 hF=>?_
 refine Zl (α:=Nat×(Int×Int×(List Int)×Int×Int×(List Revision))) (fun a _=>mkS [(0,.ptr 0 (0,0) 0),(1,.int .i64 p1),(5,.row 5 (1,5)),(6,.int .i64 a.2.1),(7,.int .i64 a.2.2.1)] [(0,some ((0,0),.box [.sl (List.map csI a.2.2.2.1),.int .i64 a.2.2.2.2.1,.int .u64 a.2.2.2.2.2.1])),(5,some ((1,5),.row 55 6 false (List.map Revision.cs a.2.2.2.2.2.2)))] 2) (fun a=>ZK a.1 f2 a.2=some r) (fun a=>a.1) (mf2,0,(w64 (1+r1.1)),r1.2.l,r1.2.pos,r1.2.seed,([]:List Revision)) 2 hF (Za5 [] 5 55 6 rfl ⟨rfl,rfl,rfl,rfl,rfl,trivial⟩ ⟨⟨rfl,rfl⟩,⟨rfl,rfl⟩,trivial⟩ rfl) (fun a _ hF=>?_)
 obtain ⟨mf2,x48,x49,x50,x51,x52,x53⟩:=a
 obtain ⟨mf2,rfl,hF⟩:=Zo hf2 hF
 dsimp only at hF ⊢
 refine Za ?_
 refine rg ?_
 refine cS hF rfl (fun hF=>?_) fun hF=>?_
 ·refine bl ?_
  refine rg ?_
  refine Zr rfl (M:=x53) (f:=Revision.cs) rfl (Za ?_)
  obtain ⟨r69,h57,hF⟩:=bnd hF
  refine Zac (Zjh _ _ h57) rfl rfl rfl rfl rfl (Za ?_)
  obtain ⟨r70,h58,hF⟩:=bnd hF
  refine Zac (Zmf _ _ h58) rfl rfl rfl rfl rfl (Za ?_)
  obtain ⟨r71,h59,hF⟩:=bnd hF
  refine Zac (Zkd _ _ h59) rfl rfl rfl rfl rfl (Za ?_)
  refine Zw (M:=([(⟨(w64 ((x53.length:Int)+1)),r69.1,r70.1,r71.1,x48,0⟩:Revision)]:List Revision)) (f:=Revision.cs) rfl rfl rfl rfl (Nat.le_of_ble_eq_true rfl) rfl (Za ?_)
  obtain ⟨l72,h60,hF⟩:=bnd hF
  refine Zaj (f:=Revision.cs) rfl h60 (fun _=>rfl) rfl rfl rfl rfl (Za ?_)
  refine rg ?_
  obtain ⟨r73,h61,hF⟩:=bnd hF
  refine Zac (ZC _ _ _ h61) rfl rfl rfl rfl rfl (Za ?_)
  refine Zqv rfl rfl rfl (Za ?_)
  refine rg ?_
  exact rn (mf2,(if (w64 (x48+r73.1))<p1 then (w64 (x48+r73.1)) else p1),(w64 (x49 - 1)),r73.2.l,r73.2.pos,r73.2.seed,l72) hF (sR [(5,3,13)])
 refine rg ?_
 cases hF
 exact Zfx rfl rfl rfl rfl rfl
def Zgd (p0:SrcF) (p1:Int):Option (Change×SrcF):=
 (ZA p0 14).bind fun r1=>
 (atI ([1,1,1,1,1,2,3,4,5,6,7,8,9,10]:List Int) r1.1).bind fun c2=>
 (ZgX r1.2).bind fun r3=>
 (Ze5 r3.2).bind fun r4=>
 letk (fun (x15:List Int) (x16:Int) (x17:Int) (x18:Int) (x19:ByteArray) (x20:ByteArray) (x21:Int) (x22:ByteArray) (x23:Int) (x24:ByteArray) (x25:ByteArray) (x26:Int) (x27:List Revision)=>
  (some ((⟨x18,x19,x20,(⟨x21,x22⟩:Title),(⟨x23,x24⟩:Title),x25,x26,x27⟩:Change),(⟨x15,x16,x17⟩:SrcF)):Option (Change×SrcF))) fun k3=>
 letk (fun (x28:Bool)=>
  if x28 then
   (ZhW r4.2).bind fun r29=>
   (Zhj r29.2).bind fun r30=>
   if (decide (c2=9)) then
    (ZA r30.2 3).bind fun r31=>
    k3 r31.2.l r31.2.pos r31.2.seed c2 r3.1 r29.1 r4.1.space r4.1.name 0 (⟨#[]⟩:ByteArray) r30.1 r31.1 []
   else
   k3 r30.2.l r30.2.pos r30.2.seed c2 r3.1 r29.1 r4.1.space r4.1.name 0 (⟨#[]⟩:ByteArray) r30.1 0 []
  else
  if (decide (c2=4)) then
   (Ze5 r4.2).bind fun r32=>
   (ZA r32.2 2).bind fun r33=>
   k3 r33.2.l r33.2.pos r33.2.seed c2 r3.1 (⟨#[]⟩:ByteArray) r4.1.space r4.1.name r32.1.space r32.1.name (⟨#[]⟩:ByteArray) r33.1 []
  else
  if (decide (c2=5)) then
   (Zdo r4.2 p1).bind fun r34=>
   k3 r34.2.l r34.2.pos r34.2.seed c2 r3.1 (⟨#[]⟩:ByteArray) r4.1.space r4.1.name 0 (⟨#[]⟩:ByteArray) (⟨#[]⟩:ByteArray) 0 r34.1
  else
  if (decide (c2=6)) then
   (ZA r4.2 2000).bind fun r35=>
   k3 r35.2.l r35.2.pos r35.2.seed 6 (⟨#[]⟩:ByteArray) (⟨#[]⟩:ByteArray) 0 (⟨#[]⟩:ByteArray) 0 (⟨#[]⟩:ByteArray) (⟨#[]⟩:ByteArray) (w64 (1+r35.1)) []
  else
  letk (fun (x36:Bool)=>
   if x36 then
    if (decide (r3.1=(⟨#[]⟩:ByteArray))) then
     k3 r4.2.l r4.2.pos r4.2.seed c2 (⟨#[98,111,98]⟩:ByteArray) (⟨#[]⟩:ByteArray) r4.1.space r4.1.name 0 (⟨#[]⟩:ByteArray) (⟨#[]⟩:ByteArray) 0 []
    else
    k3 r4.2.l r4.2.pos r4.2.seed c2 r3.1 (⟨#[]⟩:ByteArray) r4.1.space r4.1.name 0 (⟨#[]⟩:ByteArray) (⟨#[]⟩:ByteArray) 0 []
   else
   if (decide (c2=10)) then
    (ZA r4.2 4).bind fun r37=>
    k3 r37.2.l r37.2.pos r37.2.seed c2 r3.1 (⟨#[]⟩:ByteArray) 0 (⟨#[]⟩:ByteArray) 0 (⟨#[]⟩:ByteArray) (⟨#[]⟩:ByteArray) (w64 (1+r37.1)) []
   else
   k3 r4.2.l r4.2.pos r4.2.seed c2 r3.1 (⟨#[]⟩:ByteArray) r4.1.space r4.1.name 0 (⟨#[]⟩:ByteArray) (⟨#[]⟩:ByteArray) 0 []) fun k5=>
  if (decide (c2=7)) then
   k5 (decide (c2=7))
  else
  k5 (decide (c2=8))) fun k4=>
 if (decide (c2=1)) then
  k4 (decide (c2=1))
 else
 k4 (decide (c2=9))
theorem Zn9 (p0:SrcF) (p1:Int) (r:Change×SrcF) (hF:Zgd p0 p1=some r):Contract Tryz.prog 168 [.ptr 0 (0,0) 0,.int .i64 p1] (some (0,p0.cs)) (r.1.pv) (r.2).cs:=by
 refine ZaX (R:=fun r=>r.1.pv) (O:=fun r=>(r.2).cs) hF mix Tryz.func168 (by kernel_rfl) rfl (by kernel_rfl) fun r hF=>?_
 unfold Zgd at hF
 refine Zci ?_
 refine Zu (Zci ?_)
 refine Zu (Zci ?_)
 refine Zh7 (cs:=[.int .i64 1,.int .i64 1,.int .i64 1,.int .i64 1,.int .i64 1,.int .i64 2,.int .i64 3,.int .i64 4,.int .i64 5,.int .i64 6,.int .i64 7,.int .i64 8,.int .i64 9,.int .i64 10]) rfl (by kernel_rfl) (Zci ?_)
 obtain ⟨r1,h1,hF⟩:=bnd hF
 refine Zac (ZC _ _ _ h1) rfl rfl rfl rfl rfl (Zci ?_)
 obtain ⟨c2,h2,hF⟩:=bnd hF
 refine Zof (p:=(PV.int .i64)) rfl h2 rfl rfl rfl rfl rfl (Zci ?_)
 obtain ⟨r3,h3,hF⟩:=bnd hF
 refine Zac (Zjh _ _ h3) rfl rfl rfl rfl rfl (Zci ?_)
 obtain ⟨r4,h4,hF⟩:=bnd hF
 refine Zac (ZhV _ _ h4) rfl rfl rfl rfl rfl (Zci ?_)
 refine Zu (Zci ?_)
 refine Zar hF fun k3 hk3 hF=>?_
 refine ZaF (α:=(List Int)×Int×Int×Int×ByteArray×ByteArray×Int×ByteArray×Int×ByteArray×ByteArray×Int×(List Revision)) (fun a _=>mkS [(0,.ptr 0 (0,0) 0),(4,.ptr 4 (1,4) 0),(5,.ptr 5 (1,5) 0)] [(0,some ((0,0),.box [.sl (List.map csI a.1),.int .i64 a.2.1,.int .u64 a.2.2.1])),(4,some ((1,4),.box [.int .i64 0,.str (⟨#[]⟩:ByteArray),.str (⟨#[]⟩:ByteArray),.int .i64 0,.str (⟨#[]⟩:ByteArray),.int .i64 0,.str (⟨#[]⟩:ByteArray),.str (⟨#[]⟩:ByteArray),.int .i64 0,.nil])),(5,some ((1,5),.box [.int .i64 a.2.2.2.1,.str a.2.2.2.2.1,.str a.2.2.2.2.2.1,.int .i64 a.2.2.2.2.2.2.1,.str a.2.2.2.2.2.2.2.1,.int .i64 a.2.2.2.2.2.2.2.2.1,.str a.2.2.2.2.2.2.2.2.2.1,.str a.2.2.2.2.2.2.2.2.2.2.1,.int .i64 a.2.2.2.2.2.2.2.2.2.2.2.1,.sl (List.map Revision.cs a.2.2.2.2.2.2.2.2.2.2.2.2)]))] 2) (fun a=>k3 a.1 a.2.1 a.2.2.1 a.2.2.2.1 a.2.2.2.2.1 a.2.2.2.2.2.1 a.2.2.2.2.2.2.1 a.2.2.2.2.2.2.2.1 a.2.2.2.2.2.2.2.2.1 a.2.2.2.2.2.2.2.2.2.1 a.2.2.2.2.2.2.2.2.2.2.1 a.2.2.2.2.2.2.2.2.2.2.2.1 a.2.2.2.2.2.2.2.2.2.2.2.2=some r) (Zci ?_) (fun a _ hF=>?_)
 ·refine Zcx (Zci ?_)
  refine Zu (Zci ?_)
  refine Zar hF fun k4 hk4 hF=>?_
  refine ZaF (α:=Bool) (fun x28 _=>mkS [(0,.ptr 0 (0,0) 0),(1,.int .i64 p1),(4,.ptr 4 (1,4) 0),(5,.ptr 5 (1,5) 0),(16,.int .i64 c2),(17,.bool x28)] [(0,some ((0,0),.box [.sl (List.map csI r4.2.l),.int .i64 r4.2.pos,.int .u64 r4.2.seed])),(4,some ((1,4),.box [.int .i64 0,.str (⟨#[]⟩:ByteArray),.str (⟨#[]⟩:ByteArray),.int .i64 0,.str (⟨#[]⟩:ByteArray),.int .i64 0,.str (⟨#[]⟩:ByteArray),.str (⟨#[]⟩:ByteArray),.int .i64 0,.nil])),(5,some ((1,5),.box [.int .i64 c2,.str r3.1,.str (⟨#[]⟩:ByteArray),.int .i64 r4.1.space,.str r4.1.name,.int .i64 0,.str (⟨#[]⟩:ByteArray),.str (⟨#[]⟩:ByteArray),.int .i64 0,.nil]))] 2) (fun x28=>k4 x28=some r) (Zci ?_) (fun a _ hF=>?_)
  ·refine ZaV rfl (fun h=>Zci ?_) (fun h=>Zci ?_)
   ·replace hF:=ifT h hF
    exact ZaP (decide (c2=1)) 2 hF (Zt [((1,4),(1,0)),((1,5),(2,9))] ⟨rfl,rfl,rfl,rfl,rfl,rfl,trivial⟩ ⟨⟨rfl,rfl⟩,⟨rfl,rfl⟩,⟨rfl,rfl⟩,trivial⟩ rfl)
   replace hF:=ifF h hF
   refine Zu (Zci ?_)
   exact ZaP (decide (c2=9)) 2 hF (Zt [((1,4),(1,0)),((1,5),(2,9))] ⟨rfl,rfl,rfl,rfl,rfl,rfl,trivial⟩ ⟨⟨rfl,rfl⟩,⟨rfl,rfl⟩,⟨rfl,rfl⟩,trivial⟩ rfl)
  revert a;intro x28 hF
  subst hk4
  dsimp only at hF ⊢
  refine Zci ?_
  refine ZaV rfl (fun h=>Zci ?_) (fun h=>Zci ?_)
  ·replace hF:=ifT h hF
   refine Zu (Zci ?_)
   obtain ⟨r29,h13,hF⟩:=bnd hF
   refine Zac (Zmf _ _ h13) rfl rfl rfl rfl rfl (Zci ?_)
   obtain ⟨r30,h14,hF⟩:=bnd hF
   refine Zac (Zkd _ _ h14) rfl rfl rfl rfl rfl (Zci ?_)
   refine Zu (Zci ?_)
   refine ZaV rfl (fun h=>Zci ?_) (fun h=>Zci ?_)
   ·replace hF:=ifT h hF
    refine Zu (Zci ?_)
    obtain ⟨r31,h15,hF⟩:=bnd hF
    refine Zac (ZC _ _ _ h15) rfl rfl rfl rfl rfl (Zci ?_)
    exact ZaP (r31.2.l,r31.2.pos,r31.2.seed,c2,r3.1,r29.1,r4.1.space,r4.1.name,0,(⟨#[]⟩:ByteArray),r30.1,r31.1,[]) 2 hF (Shift.trans (ZdW 5 rfl rfl) (Zt [((1,4),(1,4)),((1,5),(1,5))] ⟨rfl,rfl,rfl,trivial⟩ ⟨⟨rfl,rfl⟩,⟨rfl,rfl⟩,⟨rfl,rfl⟩,trivial⟩ rfl))
   replace hF:=ifF h hF
   exact ZaP (r30.2.l,r30.2.pos,r30.2.seed,c2,r3.1,r29.1,r4.1.space,r4.1.name,0,(⟨#[]⟩:ByteArray),r30.1,0,[]) 2 hF (Shift.trans (ZdW 5 rfl rfl) (Zt [((1,4),(1,4)),((1,5),(1,5))] ⟨rfl,rfl,rfl,trivial⟩ ⟨⟨rfl,rfl⟩,⟨rfl,rfl⟩,⟨rfl,rfl⟩,trivial⟩ rfl))
  replace hF:=ifF h hF
  refine Zu (Zci ?_)
  refine ZaV rfl (fun h=>Zci ?_) (fun h=>Zci ?_)
  ·replace hF:=ifT h hF
   refine Zu (Zci ?_)
   obtain ⟨r32,h16,hF⟩:=bnd hF
   refine Zac (ZhV _ _ h16) rfl rfl rfl rfl rfl (Zci ?_)
   obtain ⟨r33,h17,hF⟩:=bnd hF
   refine Zac (ZC _ _ _ h17) rfl rfl rfl rfl rfl (Zci ?_)
   exact ZaP (r33.2.l,r33.2.pos,r33.2.seed,c2,r3.1,(⟨#[]⟩:ByteArray),r4.1.space,r4.1.name,r32.1.space,r32.1.name,(⟨#[]⟩:ByteArray),r33.1,[]) 2 hF (Shift.trans (ZdW 5 rfl rfl) (Zt [((1,4),(1,4)),((1,5),(1,5))] ⟨rfl,rfl,rfl,trivial⟩ ⟨⟨rfl,rfl⟩,⟨rfl,rfl⟩,⟨rfl,rfl⟩,trivial⟩ rfl))
  replace hF:=ifF h hF
  refine Zu (Zci ?_)
  refine ZaV rfl (fun h=>Zci ?_) (fun h=>Zci ?_)
  ·replace hF:=ifT h hF
   refine Zu (Zci ?_)
   obtain ⟨r34,h18,hF⟩:=bnd hF
   refine Zac (Zkx _ _ _ h18) rfl rfl rfl rfl rfl (Zci ?_)
   exact ZaP (r34.2.l,r34.2.pos,r34.2.seed,c2,r3.1,(⟨#[]⟩:ByteArray),r4.1.space,r4.1.name,0,(⟨#[]⟩:ByteArray),(⟨#[]⟩:ByteArray),0,r34.1) 2 hF (Zt [((1,4),(1,4)),((1,5),(1,5))] ⟨rfl,rfl,rfl,trivial⟩ ⟨⟨rfl,rfl⟩,⟨rfl,rfl⟩,⟨rfl,rfl⟩,trivial⟩ rfl)
  replace hF:=ifF h hF
  refine Zu (Zci ?_)
  refine ZaV rfl (fun h=>Zci ?_) (fun h=>Zci ?_)
  ·replace hF:=ifT h hF
   refine Zu (Zci ?_)
   obtain ⟨r35,h19,hF⟩:=bnd hF
   refine Zac (ZC _ _ _ h19) rfl rfl rfl rfl rfl (Zci ?_)
   exact ZaP (r35.2.l,r35.2.pos,r35.2.seed,6,(⟨#[]⟩:ByteArray),(⟨#[]⟩:ByteArray),0,(⟨#[]⟩:ByteArray),0,(⟨#[]⟩:ByteArray),(⟨#[]⟩:ByteArray),(w64 (1+r35.1)),[]) 2 hF (Shift.trans (ZdW 5 rfl rfl) (Zt [((1,4),(1,4)),((1,5),(1,5))] ⟨rfl,rfl,rfl,trivial⟩ ⟨⟨rfl,rfl⟩,⟨rfl,rfl⟩,⟨rfl,rfl⟩,trivial⟩ rfl))
  replace hF:=ifF h hF
  refine Zu (Zci ?_)
  refine Zar hF fun k5 hk5 hF=>?_
  refine ZaF (α:=Bool) (fun x36 _=>mkS [(0,.ptr 0 (0,0) 0),(4,.ptr 4 (1,4) 0),(5,.ptr 5 (1,5) 0),(16,.int .i64 c2),(52,.bool x36)] [(0,some ((0,0),.box [.sl (List.map csI r4.2.l),.int .i64 r4.2.pos,.int .u64 r4.2.seed])),(4,some ((1,4),.box [.int .i64 0,.str (⟨#[]⟩:ByteArray),.str (⟨#[]⟩:ByteArray),.int .i64 0,.str (⟨#[]⟩:ByteArray),.int .i64 0,.str (⟨#[]⟩:ByteArray),.str (⟨#[]⟩:ByteArray),.int .i64 0,.nil])),(5,some ((1,5),.box [.int .i64 c2,.str r3.1,.str (⟨#[]⟩:ByteArray),.int .i64 r4.1.space,.str r4.1.name,.int .i64 0,.str (⟨#[]⟩:ByteArray),.str (⟨#[]⟩:ByteArray),.int .i64 0,.nil]))] 2) (fun x36=>k5 x36=some r) (Zci ?_) (fun a _ hF=>?_)
  ·refine ZaV rfl (fun h=>Zci ?_) (fun h=>Zci ?_)
   ·replace hF:=ifT h hF
    exact ZaP (decide (c2=7)) 2 hF (Zt [((1,4),(1,4)),((1,5),(1,5))] ⟨rfl,rfl,rfl,rfl,rfl,trivial⟩ ⟨⟨rfl,rfl⟩,⟨rfl,rfl⟩,⟨rfl,rfl⟩,trivial⟩ rfl)
   replace hF:=ifF h hF
   refine Zu (Zci ?_)
   exact ZaP (decide (c2=8)) 2 hF (Zt [((1,4),(1,4)),((1,5),(1,5))] ⟨rfl,rfl,rfl,rfl,rfl,trivial⟩ ⟨⟨rfl,rfl⟩,⟨rfl,rfl⟩,⟨rfl,rfl⟩,trivial⟩ rfl)
  revert a;intro x36 hF
  subst hk5
  dsimp only at hF ⊢
  refine Zci ?_
  refine ZaV rfl (fun h=>Zci ?_) (fun h=>Zci ?_)
  ·replace hF:=ifT h hF
   refine Zu (Zci ?_)
   refine ZaV rfl (fun h=>Zci ?_) (fun h=>Zci ?_)
   ·replace hF:=ifT h hF
    refine Zu (Zci ?_)
    exact ZaP (r4.2.l,r4.2.pos,r4.2.seed,c2,(⟨#[98,111,98]⟩:ByteArray),(⟨#[]⟩:ByteArray),r4.1.space,r4.1.name,0,(⟨#[]⟩:ByteArray),(⟨#[]⟩:ByteArray),0,[]) 2 hF (Shift.trans (ZdW 5 rfl rfl) (Zt [((1,4),(1,4)),((1,5),(1,5))] ⟨rfl,rfl,rfl,trivial⟩ ⟨⟨rfl,rfl⟩,⟨rfl,rfl⟩,⟨rfl,rfl⟩,trivial⟩ rfl))
   replace hF:=ifF h hF
   exact ZaP (r4.2.l,r4.2.pos,r4.2.seed,c2,r3.1,(⟨#[]⟩:ByteArray),r4.1.space,r4.1.name,0,(⟨#[]⟩:ByteArray),(⟨#[]⟩:ByteArray),0,[]) 2 hF (Shift.trans (ZdW 5 rfl rfl) (Zt [((1,4),(1,4)),((1,5),(1,5))] ⟨rfl,rfl,rfl,trivial⟩ ⟨⟨rfl,rfl⟩,⟨rfl,rfl⟩,⟨rfl,rfl⟩,trivial⟩ rfl))
  replace hF:=ifF h hF
  refine Zu (Zci ?_)
  refine ZaV rfl (fun h=>Zci ?_) (fun h=>Zci ?_)
  ·replace hF:=ifT h hF
   refine Zu (Zci ?_)
   obtain ⟨r37,h20,hF⟩:=bnd hF
   refine Zac (ZC _ _ _ h20) rfl rfl rfl rfl rfl (Zci ?_)
   exact ZaP (r37.2.l,r37.2.pos,r37.2.seed,c2,r3.1,(⟨#[]⟩:ByteArray),0,(⟨#[]⟩:ByteArray),0,(⟨#[]⟩:ByteArray),(⟨#[]⟩:ByteArray),(w64 (1+r37.1)),[]) 2 hF (Shift.trans (ZdW 5 rfl rfl) (Zt [((1,4),(1,4)),((1,5),(1,5))] ⟨rfl,rfl,rfl,trivial⟩ ⟨⟨rfl,rfl⟩,⟨rfl,rfl⟩,⟨rfl,rfl⟩,trivial⟩ rfl))
  replace hF:=ifF h hF
  exact ZaP (r4.2.l,r4.2.pos,r4.2.seed,c2,r3.1,(⟨#[]⟩:ByteArray),r4.1.space,r4.1.name,0,(⟨#[]⟩:ByteArray),(⟨#[]⟩:ByteArray),0,[]) 2 hF (Shift.trans (ZdW 5 rfl rfl) (Zt [((1,4),(1,4)),((1,5),(1,5))] ⟨rfl,rfl,rfl,trivial⟩ ⟨⟨rfl,rfl⟩,⟨rfl,rfl⟩,⟨rfl,rfl⟩,trivial⟩ rfl))
 obtain ⟨x15,x16,x17,x18,x19,x20,x21,x22,x23,x24,x25,x26,x27⟩:=a
 subst hk3
 dsimp only at hF ⊢
 refine Zci ?_
 refine Zu (Zci ?_)
 cases hF
 exact Zfx rfl rfl rfl rfl rfl
def ZeS (p0:SrcF) (p1:Int):Option ((List Change)×SrcF):=
 (ZA p0 6).bind fun r1=>
 (Zwn .i64 r1.1 3).bind fun q2=>
 ZK Zax (fun f2 ((x24,x25,x26,x27,x28):Int×(List Int)×Int×Int×(List Change))=>
  if (decide (0<x24)) then
   (Zgd (⟨x25,x26,x27⟩:SrcF) p1).bind fun r35=>
   (ZbY 136 x28 [r35.1]).bind fun l36=>
   f2 ((w64 (x24 - 1)),r35.2.l,r35.2.pos,r35.2.seed,l36)
  else
  (some (x28,(⟨x25,x26,x27⟩:SrcF)):Option ((List Change)×SrcF))) ((w64 (1+q2)),r1.2.l,r1.2.pos,r1.2.seed,([]:List Change))
theorem Zm1 (p0:SrcF) (p1:Int) (r:(List Change)×SrcF) (hF:ZeS p0 p1=some r):Contract Tryz.prog 117 [.ptr 0 (0,0) 0,.int .i64 p1] (some (0,p0.cs)) (.sl (List.map Change.cs r.1)) (r.2).cs:=by
 refine ZaX (R:=fun r=>.sl (List.map Change.cs r.1)) (O:=fun r=>(r.2).cs) hF mix Tryz.func117 (by kernel_rfl) rfl (by kernel_rfl) fun r hF=>?_
 unfold ZeS at hF
 refine Za ?_
 refine rg ?_
 refine rg ?_
 refine rg ?_
 obtain ⟨r1,h1,hF⟩:=bnd hF
 refine Zac (ZC _ _ _ h1) rfl rfl rfl rfl rfl (Za ?_)
 obtain ⟨q2,h2,hF⟩:=bnd hF
 refine Zwr rfl h2 rfl rfl (Za ?_)
 refine bl ?_
 refine Zn hF fun f2 mf2 hf2 hF=>?_
 refine Zl (α:=Nat×(Int×(List Int)×Int×Int×(List Change))) (fun a _=>mkS [(0,.ptr 0 (0,0) 0),(1,.int .i64 p1),(5,.row 5 (1,5)),(6,.int .i64 a.2.1)] [(0,some ((0,0),.box [.sl (List.map csI a.2.2.1),.int .i64 a.2.2.2.1,.int .u64 a.2.2.2.2.1])),(5,some ((1,5),.row 66 10 false (List.map Change.cs a.2.2.2.2.2)))] 2) (fun a=>ZK a.1 f2 a.2=some r) (fun a=>a.1) (mf2,(w64 (1+q2)),r1.2.l,r1.2.pos,r1.2.seed,([]:List Change)) 2 hF (Za5 [] 5 66 10 rfl ⟨rfl,rfl,rfl,rfl,trivial⟩ ⟨⟨rfl,rfl⟩,⟨rfl,rfl⟩,trivial⟩ rfl) (fun a _ hF=>?_)
 obtain ⟨mf2,x24,x25,x26,x27,x28⟩:=a
 obtain ⟨mf2,rfl,hF⟩:=Zo hf2 hF
 dsimp only at hF ⊢
 refine Za ?_
 refine rg ?_
 refine cS hF rfl (fun hF=>?_) fun hF=>?_
 ·refine bl ?_
  refine rg ?_
  obtain ⟨r35,h25,hF⟩:=bnd hF
  refine Zac (Zn9 _ _ _ h25) rfl rfl rfl rfl rfl (Za ?_)
  refine Zw (M:=([r35.1]:List Change)) (f:=Change.cs) rfl rfl rfl rfl (Nat.le_of_ble_eq_true rfl) rfl (Za ?_)
  obtain ⟨l36,h26,hF⟩:=bnd hF
  refine Zaj (f:=Change.cs) rfl h26 (fun _=>rfl) rfl rfl rfl rfl (Za ?_)
  refine rg ?_
  exact rn (mf2,(w64 (x24 - 1)),r35.2.l,r35.2.pos,r35.2.seed,l36) hF (sR [(5,3,5)])
 refine rg ?_
 cases hF
 exact Zfx rfl rfl rfl rfl rfl
end Go.Proofs.YtjoneoobolnnbaaGreatDoor
