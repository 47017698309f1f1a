/- Rows looked at from a place on, cleared, cut short, at lists of any type. No program is named. | Functions of the program as Lean functions. Written by fxgen.py. | Three strings. No program is named. -/
import Derived.Test.YtmgfammllddkhaaGreatDoorCS06
namespace Go.Proofs.YtmgfammllddkhaaGreatDoor
namespace VL
open Go.RowKit
def ZoO {α:Type} (l:List α) (q:Int):Option Unit:=if 0≤q∧q≤(l.length:Int) then some () else none
def atQ {α:Type} (l:List α) (q i:Int):Option α:=if 0≤q∧0≤i then atI l (q+i) else none
def ZtX {α:Type} (l:List α) (q:Int):Int:=((l.length - q.toNat:Nat):Int)
def Zs6 {α:Type} (l:List α) (q:Int) (z:α):List α:=l.take q.toNat++List.replicate (l.length - q.toNat) z
theorem Zgo {α:Type} {l:List α} {q i:Int} {e:α} (h:atQ l q i=some e):atI l (q+i)=some e:=by
 unfold atQ at h
 split at h
 ·exact h
 ·cases h
section
variable {P:Program} [WInv P] {ops:Array Oper} {draw:Bool} {i:Nat} {L:List Oper} {acc:List (List Nat×List Nat)} {K:FS→Prop} {tm:List (Nat×PV)} {ob:List (Nat×Option (Gen×VObj))} {ng:Nat}
 {d:Option Tmp} {ty:TypeId} {pos:String} {after:Array Edge} {gd:Option (Nat×Bool)} {T:TypeId} {x y:Operand} {E kk by_:Nat} {z:List PV} {t:Nat} {g:Gen} {α:Type} {f:α→List PV}
theorem Znk {w:Operand} {kd:IntKind} {q:Int} {E':Nat} {sh:Bool} {u:Unit} {M:List α} [Sl P T E kk by_ z] (hw:Zf ops (mkS tm ob ng) ⟨d,.slice T x (some w) none none,ty,pos,after,gd⟩=some true) (hs:ZoO M q=some u) (hx:evL tm x = .row t g) (hb:ZV (Zm ob) t g=some (.row E' kk sh (M.map f))) (hy:evL tm w = .int kd q)
  (k:GoL P ops draw (i+1) L (acc ++ [(Zy (mkS tm ob ng) ⟨d,.slice T x (some w) none none,ty,pos,after,gd⟩,[])]) (mkS (Za3 d (.suf t g q.toNat kk) tm) ob ng) K):GoL P ops draw i (⟨d,.slice T x (some w) none none,ty,pos,after,gd⟩::L) acc (mkS tm ob ng) K:=by
 unfold ZoO at hs
 split at hs
 ·rename_i hc
  exact ZuA (n:=q.toNat) hw hx hb (by rw [hy,Int.toNat_of_nonneg hc.1]) (by rw [List.length_map];omega) k
 ·cases hs
theorem ZsC {q:Int} {k' E':Nat} {sh:Bool} {M:List α} [Sl P T E kk by_ z] (hw:Zf ops (mkS tm ob ng) ⟨d,.call ⟨.builtin .len,#[x],#[T]⟩,ty,pos,after,gd⟩=some true) (hx:evL tm x = .suf t g q.toNat k') (hb:ZV (Zm ob) t g=some (.row E' k' sh (M.map f)))
  (k:GoL P ops draw (i+1) L (acc ++ [(Zy (mkS tm ob ng) ⟨d,.call ⟨.builtin .len,#[x],#[T]⟩,ty,pos,after,gd⟩,[])]) (mkS (Za3 d (.int .i64 (ZtX M q)) tm) ob ng) K):GoL P ops draw i (⟨d,.call ⟨.builtin .len,#[x],#[T]⟩,ty,pos,after,gd⟩::L) acc (mkS tm ob ng) K:=
 ZuB hw hx hb (by rw [List.length_map];rfl) k
theorem ZeD {E':Nat} {sh:Bool} {kd:IntKind} {q n:Int} {M:List α} {e:α} [Sl P T E kk by_ z] (hw:Zf ops (mkS tm ob ng) ⟨d,.indexAddr T x y,ty,pos,after,gd⟩=some true) (he:atQ M q n=some e) (hx:evL tm x = .suf t g q.toNat kk) (hb:ZV (Zm ob) t g=some (.row E' kk sh (M.map f))) (hy:evL tm y = .int kd n)
  (k:GoL P ops draw (i+1) L (acc ++ [(Zy (mkS tm ob ng) ⟨d,.indexAddr T x y,ty,pos,after,gd⟩,[])]) (mkS (Za3 d (.elp t g (q+n).toNat kk 0) tm) ob ng) K):GoL P ops draw i (⟨d,.indexAddr T x y,ty,pos,after,gd⟩::L) acc (mkS tm ob ng) K:=by
 have h2:=(Zhe (Zgo he)).2
 unfold atQ at he
 split at he
 ·rename_i hc
  exact Zr1 (n:=n.toNat) hw hx hb (by rw [hy,Int.toNat_of_nonneg hc.2]) (by omega) (by rw [List.length_map];exact (List.getElem?_eq_some_iff.1 h2).1) k
 ·cases he
theorem Znl {q:Int} {E':Nat} {zr:α} {M:List α} [Sl P T E kk by_ z] (hw:Zf ops (mkS tm ob ng) ⟨d,.call ⟨.builtin .clear,#[x],#[T]⟩,ty,pos,after,gd⟩=some true) (hx:evL tm x = .suf t g q.toNat kk) (hb:ZV (Zm ob) t g=some (.row E' kk false (M.map f))) (hz:z.map dn=f zr) (hp:(f zr).all PV.pure=true)
  (k:GoL P ops draw (i+1) L (acc ++ [(Zy (mkS tm ob ng) ⟨d,.call ⟨.builtin .clear,#[x],#[T]⟩,ty,pos,after,gd⟩,[t])]) (mkS (Za3 d (.tup []) tm) ((t,some (g,.row E' kk false ((Zs6 M q zr).map f)))::ob) ng) K):GoL P ops draw i (⟨d,.call ⟨.builtin .clear,#[x],#[T]⟩,ty,pos,after,gd⟩::L) acc (mkS tm ob ng) K:=
 Zr3 hw hx hb hz hp (by unfold Zs6;rw [List.map_append,List.map_take,List.map_replicate,List.length_map]) k
theorem Znm {w:Operand} {E':Nat} {kd:IntKind} {h:Int} {M R:List α} [Sl P T E kk by_ z] (hw:Zf ops (mkS tm ob ng) ⟨d,.slice T x none (some w) none,ty,pos,after,gd⟩=some true) (hs:ZsR M 0 h=some R) (hx:evL tm x = .row t g) (hb:ZV (Zm ob) t g=some (.row E' kk false (M.map f))) (hy:evL tm w = .int kd h)
  (k:GoL P ops draw (i+1) L (acc ++ [(Zy (mkS tm ob ng) ⟨d,.slice T x none (some w) none,ty,pos,after,gd⟩,[t])]) (mkS (Za3 d (.row t (ng,i)) tm) ((t,some ((ng,i),.row E' kk false (R.map f)))::ob) ng) K):GoL P ops draw i (⟨d,.slice T x none (some w) none,ty,pos,after,gd⟩::L) acc (mkS tm ob ng) K:=by
 obtain ⟨h0,h1,h2,rfl⟩:=Zq8 hs
 refine Zr2 (n:=h.toNat) hw hx hb (by rw [hy,Int.toNat_of_nonneg h1]) (by rw [List.length_map];omega) (?_:_=_) k
 rw [← List.map_take]
 rfl
end
theorem ZiM {P:Program} [WInv P] {β:Type} {F:Option β} {O:β→List (List PV)} {f:FuncId} {fn:Func} {c:Code} {args:List PV} {E k:Nat} {els:List (List PV)} {r:β} (hF:F=some r) (hmix:P.follows .mixedOrders=true) (hf:P.funcs[f]? = some fn) (hg:isGo P f=true) (hb:fn.body=some c) (hok:(decide (args.length+1≤fn.ntmps)&&ZaN fn.ntmps c)=true)
  (h:∀ r,F=some r→PWs P [c] (ZtM P fn.results.toList E k (O r)) (mkS (Zc3 0 (.row 0 (0,0)::args)) [(0,some ((0,0),.row E k false els))] 1)):ContractS P f args E k els (O r):=ZjM hmix hf hg hb hok (h r hF)
end VL
end Go.Proofs.YtmgfammllddkhaaGreatDoor
set_option linter.unusedVariables false
set_option maxHeartbeats 4000000
set_option maxRecDepth 100000
namespace Go.Proofs.YtmgfammllddkhaaGreatDoor
open VL
def Zax (p0:ByteArray) (p1:ByteArray):Option Bool:=
 letk (fun (x2:Bool)=>
  (some x2:Option Bool)) fun k1=>
 if (decide ((p1.size:Int)≤(p0.size:Int))) then
  (ZfP p0 (w64 ((p0.size:Int) - (p1.size:Int))) (p0.size:Int)).bind fun l3=>
  k1 (decide (l3=p1))
 else
 k1 false
theorem ZcJ (p0:ByteArray) (p1:ByteArray) (r:Bool) (h:Zax p0 p1=some r):Zo Tryz.prog 219 [.str p0,.str p1] (.bool r):=by
 refine cF (fun r=>.bool r) h mix Tryz.func219 fun r h=>?_
 unfold Zax at h
 refine Zq ?_
 refine rg ?_
 refine jL h (fun x2=>mkS [(4,.bool x2)] [] 2) (fun k1 h=>?_) fun x2 h=>?_
 ·refine rg ?_
  refine kS 10 h rfl (fun h=>?_) fun h=>?_
  ·refine sS h fun l3 h=>?_
   exact jn (decide (l3=p1)) h (sR [])
  iterate 9 refine ZN rfl (Zq ?_)
  exact jn false h (sR [])
 cases h
 exact rQ
def Zaq (p0:ByteArray) (p1:ByteArray):Option ByteArray:=
 (Zax p0 p1).bind fun r1=>
 if r1 then
  (ZfP p0 0 (w64 ((p0.size:Int) - (p1.size:Int)))).bind fun l3=>
  (some l3:Option ByteArray)
 else
 (some p0:Option ByteArray)
theorem ZcE (p0:ByteArray) (p1:ByteArray) (r:ByteArray) (h:Zaq p0 p1=some r):Zo Tryz.prog 214 [.str p0,.str p1] (.str r):=by
 refine cF (fun r=>.str r) h mix Tryz.func214 fun r h=>?_
 unfold Zaq at h
 refine Zq ?_
 refine rg ?_
 refine rg ?_
 refine aC h (ZcJ _ _) fun r1 h=>?_
 refine cS h rfl (fun h=>?_) fun h=>?_
 ·refine rg ?_
  refine sS h fun l3 h=>?_
  cases h
  exact rQ
 refine rg ?_
 cases h
 exact rQ
def strings_TrimSuffix (p0:ByteArray) (p1:ByteArray):Option ByteArray:=
 (Zaq p0 p1).bind fun r1=>
 (some r1:Option ByteArray)
theorem Zgb (p0:ByteArray) (p1:ByteArray) (r:ByteArray) (h:strings_TrimSuffix p0 p1=some r):Zo Tryz.prog 192 [.str p0,.str p1] (.str r):=by
 refine cF (fun r=>.str r) h mix Tryz.func192 fun r h=>?_
 unfold strings_TrimSuffix at h
 refine Zq ?_
 refine rg ?_
 refine rg ?_
 refine aC h (ZcE _ _) fun r1 h=>?_
 cases h
 exact rQ
def Zdi (p0:ByteArray):Option ByteArray:=
 (ZrO 1 (p0.size:Int)).bind fun _=>
 Zbq Zel (fun f17 ((x63,x64):Int×(List Int))=>
  if (decide (x63<(p0.size:Int))) then
   letk (fun (x87:List Int)=>
    f17 ((w64 (x63+1)),x87)) fun k19=>
   letk (fun (x90:Bool)=>
    if x90 then
     (atS p0 x63).bind fun c91=>
     (Zjw 1 x64 [c91]).bind fun l92=>
     k19 l92
    else
    k19 x64) fun k20=>
   (atS p0 x63).bind fun c93=>
   if (!decide (c93=32)) then
    k20 true
   else
   if (decide (0<(x64.length:Int))) then
    (atI x64 (w64 ((x64.length:Int) - 1))).bind fun e94=>
    k20 (!decide (e94=32))
   else
   k20 false
  else
  (strings_TrimSuffix (strOfNums x64) (⟨#[32]⟩:ByteArray)).bind fun r95=>
  (some r95:Option ByteArray)) (0,([]:List Int))
theorem ZjN (p0:ByteArray) (r:ByteArray) (h:Zdi p0=some r):Zo Tryz.prog 152 [.str p0] (.str r):=by
 refine cF (fun r=>.str r) h mix Tryz.func152 fun r h=>?_
 unfold Zdi at h
 refine Zq ?_
 refine rg ?_
 refine rg ?_
 obtain ⟨_,h1,h⟩:=bnd h
 refine Ztn csB rfl rfl rfl h1 (Zq ?_)
 refine rg ?_
 refine bl ?_
 refine ZW h fun f17 mf17 hf17 h=>?_
 refine ZH (α:=Nat×(Int×(List Int))) (fun a _=>mkS [(0,.str p0),(3,.row 7 (1,7)),(4,.int .i64 a.2.1)] [(7,some ((1,7),.row 5 1 false (List.map csB a.2.2)))] 2) (fun a=>Zbq a.1 f17 a.2=some r) (fun a=>a.1) (mf17,0,([]:List Int)) 2 h (sR [(7,2,2)]) (fun a _ h=>?_)
 obtain ⟨mf17,x63,x64⟩:=a
 obtain ⟨mf17,rfl,h⟩:=ZX hf17 h
 dsimp only at h ⊢
 refine Zq ?_
 refine rg ?_
 refine cS h rfl (fun h=>?_) fun h=>?_
 ·refine jL h (fun x87=>mkS [(0,.str p0),(3,.row 7 (1,7)),(4,.int .i64 x63)] [(7,some ((1,7),.row 5 1 false (List.map csB x87)))] 2) (fun k19 h=>?_) fun x87 h=>?_
  ·refine bl ?_
   refine jL h (fun x90=>mkS [(0,.str p0),(3,.row 7 (1,7)),(4,.int .i64 x63),(31,.bool x90)] [(7,some ((1,7),.row 5 1 false (List.map csB x64)))] 2) (fun k20 h=>?_) fun x90 h=>?_
   ·refine rg ?_
    refine aS h fun c93 h=>?_
    refine kS 18 h rfl (fun h=>?_) fun h=>?_
    ·iterate 12 refine ZN rfl (Zq ?_)
     exact jn true h (sR [(7,1,7)])
    refine lM csB x64 ?_
    refine kS 22 h rfl (fun h=>?_) fun h=>?_
    ·refine lM csB x64 ?_
     obtain ⟨e94,h73,h⟩:=bnd h
     refine ZY rfl h73 rfl rfl rfl (Zq ?_)
     refine ZaG rfl h73 rfl rfl rfl (Zq ?_)
     exact jn (!decide (e94=32)) h (sR [(7,1,7)])
    iterate 7 refine ZN rfl (Zq ?_)
    exact jn false h (sR [(7,1,7)])
   refine cS h rfl (fun h=>?_) fun h=>?_
   ·refine rg ?_
    refine aS h fun c91 h=>?_
    refine bM csB ([c91]:List Int) ?_
    refine pR csB h fun l92 h=>?_
    exact jn l92 h (sR [(7,2,5)])
   exact jn x64 h (sR [(7,1,7)])
  refine rg ?_
  exact rn (mf17,(w64 (x63+1)),x87) h (sR [(7,1,7)])
 refine rg ?_
 refine Zny (l:=x64) rfl rfl (Zq ?_)
 refine aC h (Zgb _ _) fun r95 h=>?_
 cases h
 exact rQ
def Zs (p0:ByteArray) (p1:ByteArray):Option Bool:=
 letk (fun (x2:Bool)=>
  (some x2:Option Bool)) fun k1=>
 if (decide ((p1.size:Int)≤(p0.size:Int))) then
  (ZfP p0 0 (p1.size:Int)).bind fun l3=>
  k1 (decide (l3=p1))
 else
 k1 false
theorem ZaL (p0:ByteArray) (p1:ByteArray) (r:Bool) (h:Zs p0 p1=some r):Zo Tryz.prog 148 [.str p0,.str p1] (.bool r):=by
 refine cF (fun r=>.bool r) h mix Tryz.func148 fun r h=>?_
 unfold Zs at h
 refine Zq ?_
 refine rg ?_
 refine jL h (fun x2=>mkS [(4,.bool x2)] [] 2) (fun k1 h=>?_) fun x2 h=>?_
 ·refine rg ?_
  refine kS 10 h rfl (fun h=>?_) fun h=>?_
  ·refine sS h fun l3 h=>?_
   exact jn (decide (l3=p1)) h (sR [])
  iterate 6 refine ZN rfl (Zq ?_)
  exact jn false h (sR [])
 cases h
 exact rQ
def ZF (p0:ByteArray) (p1:ByteArray):Option Bool:=
 (Zs p0 p1).bind fun r1=>
 (some r1:Option Bool)
theorem Zao (p0:ByteArray) (p1:ByteArray) (r:Bool) (h:ZF p0 p1=some r):Zo Tryz.prog 115 [.str p0,.str p1] (.bool r):=by
 refine cF (fun r=>.bool r) h mix Tryz.func115 fun r h=>?_
 unfold ZF at h
 refine Zq ?_
 refine rg ?_
 refine rg ?_
 refine aC h (ZaL _ _) fun r1 h=>?_
 cases h
 exact rQ
def Zar (p0:ByteArray) (p1:ByteArray):Option ByteArray:=
 (Zs p0 p1).bind fun r1=>
 if r1 then
  (ZfP p0 (p1.size:Int) (p0.size:Int)).bind fun l3=>
  (some l3:Option ByteArray)
 else
 (some p0:Option ByteArray)
theorem ZcF (p0:ByteArray) (p1:ByteArray) (r:ByteArray) (h:Zar p0 p1=some r):Zo Tryz.prog 194 [.str p0,.str p1] (.str r):=by
 refine cF (fun r=>.str r) h mix Tryz.func194 fun r h=>?_
 unfold Zar at h
 refine Zq ?_
 refine rg ?_
 refine rg ?_
 refine aC h (ZaL _ _) fun r1 h=>?_
 refine cS h rfl (fun h=>?_) fun h=>?_
 ·refine rg ?_
  refine sS h fun l3 h=>?_
  cases h
  exact rQ
 refine rg ?_
 cases h
 exact rQ
def Za0 (p0:ByteArray) (p1:ByteArray):Option ByteArray:=
 (Zar p0 p1).bind fun r1=>
 (some r1:Option ByteArray)
theorem Zds (p0:ByteArray) (p1:ByteArray) (r:ByteArray) (h:Za0 p0 p1=some r):Zo Tryz.prog 154 [.str p0,.str p1] (.str r):=by
 refine cF (fun r=>.str r) h mix Tryz.func154 fun r h=>?_
 unfold Za0 at h
 refine Zq ?_
 refine rg ?_
 refine rg ?_
 refine aC h (ZcF _ _) fun r1 h=>?_
 cases h
 exact rQ
def Za5 (p0:ByteArray) (p1:Int):Option ByteArray:=
 Zbq Zel (fun f7 (x18:ByteArray)=>
  letk (fun (x24:Bool)=>
   if x24 then
    (ZfP x18 1 (x18.size:Int)).bind fun l25=>
    f7 l25
   else
   (some x18:Option ByteArray)) fun k8=>
  if (decide (0<(x18.size:Int))) then
   (atS x18 0).bind fun c26=>
   k8 (decide (c26=p1))
  else
  k8 false) p0
theorem Zfp (p0:ByteArray) (p1:Int) (r:ByteArray) (h:Za5 p0 p1=some r):Zo Tryz.prog 84 [.str p0,.int .u8 p1] (.str r):=by
 refine cF (fun r=>.str r) h mix Tryz.func84 fun r h=>?_
 unfold Za5 at h
 refine Zq ?_
 refine rg ?_
 refine bl ?_
 refine ZW h fun f7 mf7 hf7 h=>?_
 refine ZH (α:=Nat×ByteArray) (fun a _=>mkS [(0,.str a.2),(1,.int .u8 p1)] [] 2) (fun a=>Zbq a.1 f7 a.2=some r) (fun a=>a.1) (mf7,p0) 2 h (sR []) (fun a _ h=>?_)
 obtain ⟨mf7,x18⟩:=a
 obtain ⟨mf7,rfl,h⟩:=ZX hf7 h
 dsimp only at h ⊢
 refine Zq ?_
 refine jL h (fun x24=>mkS [(0,.str x18),(1,.int .u8 p1),(13,.bool x24)] [] 2) (fun k8 h=>?_) fun x24 h=>?_
 ·refine rg ?_
  refine kS 8 h rfl (fun h=>?_) fun h=>?_
  ·refine aS h fun c26 h=>?_
   exact jn (decide (c26=p1)) h (sR [])
  iterate 4 refine ZN rfl (Zq ?_)
  exact jn false h (sR [])
 refine cS h rfl (fun h=>?_) fun h=>?_
 ·refine bl ?_
  refine rg ?_
  refine sS h fun l25 h=>?_
  exact rn (mf7,l25) h (sR [])
 refine rg ?_
 cases h
 exact rQ
def ZbN (p0:ByteArray) (p1:ByteArray):Option ByteArray:=
 letk (fun (x1:Bool)=>
  if x1 then
   (some p0:Option ByteArray)
  else
  letk (fun (x3:Bool)=>
   if x3 then
    (atS p1 0).bind fun c6=>
    (Za5 p0 c6).bind fun r7=>
    (some r7:Option ByteArray)
   else
   (none:Option ByteArray)) fun k2=>
  if (decide ((p1.size:Int)=1)) then
   (atS p1 0).bind fun c8=>
   k2 (decide (c8<128))
  else
  k2 false) fun k1=>
 if (decide (p0=(⟨#[]⟩:ByteArray))) then
  k1 true
 else
 k1 (decide (p1=(⟨#[]⟩:ByteArray)))
theorem Zg9 (p0:ByteArray) (p1:ByteArray) (r:ByteArray) (h:ZbN p0 p1=some r):Zo Tryz.prog 48 [.str p0,.str p1] (.str r):=by
 refine cF (fun r=>.str r) h mix Tryz.func48 fun r h=>?_
 unfold ZbN at h
 refine Zq ?_
 refine rg ?_
 refine jL h (fun x1=>mkS [(0,.str p0),(1,.str p1),(12,.bool x1)] [] 2) (fun k1 h=>?_) fun x1 h=>?_
 ·refine rg ?_
  refine kS 9 h rfl (fun h=>?_) fun h=>?_
  ·iterate 2 refine ZN rfl (Zq ?_)
   exact jn true h (sR [])
  exact jn (decide (p1=(⟨#[]⟩:ByteArray))) h (sR [])
 refine cS h rfl (fun h=>?_) fun h=>?_
 ·refine rg ?_
  cases h
  exact rQ
 refine jL h (fun x3=>mkS [(0,.str p0),(1,.str p1),(21,.bool x3)] [] 2) (fun k2 h=>?_) fun x3 h=>?_
 ·refine rg ?_
  refine kS 17 h rfl (fun h=>?_) fun h=>?_
  ·refine aS h fun c8 h=>?_
   exact jn (decide (c8<128)) h (sR [])
  iterate 3 refine ZN rfl (Zq ?_)
  exact jn false h (sR [])
 refine cS h rfl (fun h=>?_) fun h=>?_
 ·refine rg ?_
  refine aS h fun c6 h=>?_
  refine aC h (Zfp _ _) fun r7 h=>?_
  cases h
  exact rQ
 cases h
def ZaW (p0:ByteArray) (p1:Int):Option ByteArray:=
 Zbq Zel (fun f7 (x18:ByteArray)=>
  letk (fun (x24:Bool)=>
   if x24 then
    (ZfP x18 0 (w64 ((x18.size:Int) - 1))).bind fun l25=>
    f7 l25
   else
   (some x18:Option ByteArray)) fun k8=>
  if (decide (0<(x18.size:Int))) then
   (atS x18 (w64 ((x18.size:Int) - 1))).bind fun c26=>
   k8 (decide (c26=p1))
  else
  k8 false) p0
theorem Zfc (p0:ByteArray) (p1:Int) (r:ByteArray) (h:ZaW p0 p1=some r):Zo Tryz.prog 209 [.str p0,.int .u8 p1] (.str r):=by
 refine cF (fun r=>.str r) h mix Tryz.func209 fun r h=>?_
 unfold ZaW at h
 refine Zq ?_
 refine rg ?_
 refine bl ?_
 refine ZW h fun f7 mf7 hf7 h=>?_
 refine ZH (α:=Nat×ByteArray) (fun a _=>mkS [(0,.str a.2),(1,.int .u8 p1)] [] 2) (fun a=>Zbq a.1 f7 a.2=some r) (fun a=>a.1) (mf7,p0) 2 h (sR []) (fun a _ h=>?_)
 obtain ⟨mf7,x18⟩:=a
 obtain ⟨mf7,rfl,h⟩:=ZX hf7 h
 dsimp only at h ⊢
 refine Zq ?_
 refine jL h (fun x24=>mkS [(0,.str x18),(1,.int .u8 p1),(16,.bool x24)] [] 2) (fun k8 h=>?_) fun x24 h=>?_
 ·refine rg ?_
  refine kS 8 h rfl (fun h=>?_) fun h=>?_
  ·refine aS h fun c26 h=>?_
   exact jn (decide (c26=p1)) h (sR [])
  iterate 7 refine ZN rfl (Zq ?_)
  exact jn false h (sR [])
 refine cS h rfl (fun h=>?_) fun h=>?_
 ·refine bl ?_
  refine rg ?_
  refine sS h fun l25 h=>?_
  exact rn (mf7,l25) h (sR [])
 refine rg ?_
 cases h
 exact rQ
def ZbA (p0:ByteArray) (p1:ByteArray):Option ByteArray:=
 letk (fun (x1:Bool)=>
  if x1 then
   (some p0:Option ByteArray)
  else
  letk (fun (x3:Bool)=>
   if x3 then
    (atS p1 0).bind fun c6=>
    (ZaW p0 c6).bind fun r7=>
    (some r7:Option ByteArray)
   else
   (none:Option ByteArray)) fun k2=>
  if (decide ((p1.size:Int)=1)) then
   (atS p1 0).bind fun c8=>
   k2 (decide (c8<128))
  else
  k2 false) fun k1=>
 if (decide (p0=(⟨#[]⟩:ByteArray))) then
  k1 true
 else
 k1 (decide (p1=(⟨#[]⟩:ByteArray)))
theorem ZgC (p0:ByteArray) (p1:ByteArray) (r:ByteArray) (h:ZbA p0 p1=some r):Zo Tryz.prog 198 [.str p0,.str p1] (.str r):=by
 refine cF (fun r=>.str r) h mix Tryz.func198 fun r h=>?_
 unfold ZbA at h
 refine Zq ?_
 refine rg ?_
 refine jL h (fun x1=>mkS [(0,.str p0),(1,.str p1),(12,.bool x1)] [] 2) (fun k1 h=>?_) fun x1 h=>?_
 ·refine rg ?_
  refine kS 9 h rfl (fun h=>?_) fun h=>?_
  ·iterate 2 refine ZN rfl (Zq ?_)
   exact jn true h (sR [])
  exact jn (decide (p1=(⟨#[]⟩:ByteArray))) h (sR [])
 refine cS h rfl (fun h=>?_) fun h=>?_
 ·refine rg ?_
  cases h
  exact rQ
 refine jL h (fun x3=>mkS [(0,.str p0),(1,.str p1),(21,.bool x3)] [] 2) (fun k2 h=>?_) fun x3 h=>?_
 ·refine rg ?_
  refine kS 17 h rfl (fun h=>?_) fun h=>?_
  ·refine aS h fun c8 h=>?_
   exact jn (decide (c8<128)) h (sR [])
  iterate 3 refine ZN rfl (Zq ?_)
  exact jn false h (sR [])
 refine cS h rfl (fun h=>?_) fun h=>?_
 ·refine rg ?_
  refine aS h fun c6 h=>?_
  refine aC h (Zfc _ _) fun r7 h=>?_
  cases h
  exact rQ
 cases h
def ZcG (p0:ByteArray):Option ByteArray:=
 (strings_Split p0 (⟨#[47]⟩:ByteArray)).bind fun r1=>
 Zbq Zel (fun f13 ((x60,x61):Int×(List ByteArray))=>
  if (decide (x60<(r1.length:Int))) then
   letk (fun (x93:List ByteArray)=>
    f13 ((w64 (x60+1)),x93)) fun k15=>
   letk (fun (x97:List ByteArray)=>
    if (decide (x60<(w64 ((x97.length:Int) - 1)))) then
     (atI x97 x60).bind fun e98=>
     (ZbA e98 (⟨#[32]⟩:ByteArray)).bind fun r99=>
     (atI x97 x60).bind fun e100=>
     k15 (ZeX x97 x60 r99)
    else
    k15 x97) fun k16=>
   if (decide (0<x60)) then
    (atI x61 x60).bind fun e101=>
    (ZbN e101 (⟨#[32]⟩:ByteArray)).bind fun r102=>
    (atI x61 x60).bind fun e103=>
    k16 (ZeX x61 x60 r102)
   else
   k16 x61
  else
  (strings_Join x61 (⟨#[47]⟩:ByteArray)).bind fun r104=>
  (some r104:Option ByteArray)) (0,r1)
theorem Zjn (p0:ByteArray) (r:ByteArray) (h:ZcG p0=some r):Zo Tryz.prog 156 [.str p0] (.str r):=by
 refine cF (fun r=>.str r) h mix Tryz.func156 fun r h=>?_
 unfold ZcG at h
 refine Zq ?_
 refine rg ?_
 refine rg ?_
 refine aN h (Zi7 _ _) fun r1 h=>?_
 refine rg ?_
 refine lM csS r1 ?_
 refine bl ?_
 refine ZW h fun f13 mf13 hf13 h=>?_
 refine ZH (α:=Nat×(Int×(List ByteArray))) (fun a _=>mkS [(3,.row 6 (1,6)),(8,.int .i64 (r1.length:Int)),(9,.int .i64 a.2.1)] [(6,some ((1,6),.row 9 1 false (List.map csS a.2.2)))] 2) (fun a=>Zbq a.1 f13 a.2=some r) (fun a=>a.1) (mf13,0,r1) 2 h (sR [(6,2,1)]) (fun a _ h=>?_)
 obtain ⟨mf13,x60,x61⟩:=a
 obtain ⟨mf13,rfl,h⟩:=ZX hf13 h
 dsimp only at h ⊢
 refine Zq ?_
 refine rg ?_
 refine cS h rfl (fun h=>?_) fun h=>?_
 ·refine jL h (fun x93=>mkS [(3,.row 6 (1,6)),(8,.int .i64 (r1.length:Int)),(9,.int .i64 x60)] [(6,some ((1,6),.row 9 1 false (List.map csS x93)))] 2) (fun k15 h=>?_) fun x93 h=>?_
  ·refine bl ?_
   refine rg ?_
   refine rg ?_
   refine jL h (fun x97=>mkS [(3,.row 6 (1,6)),(4,.int .i64 x60),(8,.int .i64 (r1.length:Int)),(9,.int .i64 x60)] [(6,some ((1,6),.row 9 1 false (List.map csS x97)))] 2) (fun k16 h=>?_) fun x97 h=>?_
   ·refine cS h rfl (fun h=>?_) fun h=>?_
    ·refine rg ?_
     obtain ⟨e101,h83,h⟩:=bnd h
     refine ZY rfl h83 rfl rfl rfl (Zq ?_)
     refine ZaG rfl h83 rfl rfl rfl (Zq ?_)
     refine aC h (Zg9 _ _) fun r102 h=>?_
     obtain ⟨e103,h85,h⟩:=bnd h
     refine ZY rfl h85 rfl rfl rfl (Zq ?_)
     refine Zcg (e':=r102) rfl h85 rfl rfl rfl rfl rfl rfl (Nat.le_of_ble_eq_true rfl) rfl rfl (Zq ?_)
     exact jn (ZeX x61 x60 r102) h (sR [(6,1,6)])
    exact jn x61 h (sR [(6,1,6)])
   refine rg ?_
   refine lM csS x97 ?_
   refine cS h rfl (fun h=>?_) fun h=>?_
   ·refine rg ?_
    obtain ⟨e98,h80,h⟩:=bnd h
    refine ZY rfl h80 rfl rfl rfl (Zq ?_)
    refine ZaG rfl h80 rfl rfl rfl (Zq ?_)
    refine aC h (ZgC _ _) fun r99 h=>?_
    obtain ⟨e100,h82,h⟩:=bnd h
    refine ZY rfl h82 rfl rfl rfl (Zq ?_)
    refine Zcg (e':=r99) rfl h82 rfl rfl rfl rfl rfl rfl (Nat.le_of_ble_eq_true rfl) rfl rfl (Zq ?_)
    exact jn (ZeX x97 x60 r99) h (sR [(6,1,6)])
   exact jn x97 h (sR [(6,1,6)])
  refine rg ?_
  exact rn (mf13,(w64 (x60+1)),x93) h (sR [(6,1,6)])
 refine rg ?_
 refine aL h (ZjI _ _) fun r104 h=>?_
 cases h
 exact rQ
def Zef (p0:ByteArray):Option (Title×Int):=
 (Zbe p0 (⟨#[95]⟩:ByteArray) (⟨#[32]⟩:ByteArray)).bind fun r1=>
 (Zdi r1).bind fun r2=>
 (ZF r2 (⟨#[58]⟩:ByteArray)).bind fun r3=>
 letk (fun (x6:ByteArray)=>
  (Zeo x6).bind fun r7=>
  letk (fun (x9:ByteArray) (x10:Int)=>
   (ZcG x9).bind fun r11=>
   letk (fun (x14:Bool)=>
    letk (fun (x18:ByteArray)=>
     if (decide (100<(x18.size:Int))) then
      (some ((⟨0,(⟨#[]⟩:ByteArray)⟩:Title),3):Option (Title×Int))
     else
     (Zi6 (⟨x10,x18⟩:Title)).bind fun r19=>
     if (!r19) then
      (some ((⟨0,(⟨#[]⟩:ByteArray)⟩:Title),1):Option (Title×Int))
     else
     (some ((⟨x10,x18⟩:Title),0):Option (Title×Int))) fun k4=>
    if x14 then
     (atS r11 0).bind fun c20=>
     (ZfP r11 1 (r11.size:Int)).bind fun l21=>
     (Zbk (strOfNums [(IntKind.wrap .u8 (c20 - 32))]) l21).bind fun s22=>
     k4 s22
    else
    k4 r11) fun k3=>
   if (!decide (r11=(⟨#[]⟩:ByteArray))) then
    (atS r11 0).bind fun c23=>
    if (decide (97≤c23)) then
     (atS r11 0).bind fun c24=>
     k3 (decide (c24≤122))
    else
    k3 false
   else
   k3 false) fun k2=>
  if r7.2.2 then
   (Za0 r7.2.1 (⟨#[32]⟩:ByteArray)).bind fun r25=>
   k2 r25 r7.1
  else
  k2 x6 0) fun k1=>
 if r3 then
  (ZfP r2 1 (r2.size:Int)).bind fun l26=>
  (Za0 l26 (⟨#[32]⟩:ByteArray)).bind fun r27=>
  k1 r27
 else
 k1 r2
theorem Zld (p0:ByteArray) (r:Title×Int) (h:Zef p0=some r):Zo Tryz.prog 89 [.str p0] (.tup [r.1.pv,.int .i64 r.2]):=by
 refine cF (fun r=>.tup [r.1.pv,.int .i64 r.2]) h mix Tryz.func89 fun r h=>?_
 unfold Zef at h
 refine Zq ?_
 refine rg ?_
 refine rg ?_
 refine aC h (Zfr _ _ _) fun r1 h=>?_
 refine aC h (ZjN _) fun r2 h=>?_
 refine rg ?_
 refine aC h (Zao _ _) fun r3 h=>?_
 refine jL h (fun x6=>mkS [(0,.str x6),(2,.ptr 2 (1,2) 0)] [(2,some ((1,2),.box [.int .i64 0,.str (⟨#[]⟩:ByteArray)]))] 2) (fun k1 h=>?_) fun x6 h=>?_
 ·refine cS h rfl (fun h=>?_) fun h=>?_
  ·refine rg ?_
   refine sS h fun l26 h=>?_
   refine aC h (Zds _ _) fun r27 h=>?_
   exact jn r27 h (sR [(2,1,0)])
  exact jn r2 h (sR [(2,1,0)])
 refine rg ?_
 refine rg ?_
 refine aC h (ZjJ _) fun r7 h=>?_
 refine rg ?_
 refine Zcr h fun k2 hk2 h=>?_
 refine Zb3 (α:=ByteArray×Int) (fun a _=>mkS [(0,.str a.1),(2,.ptr 2 (1,2) 0),(4,.ptr 4 (1,4) 0)] [(2,some ((1,2),.box [.int .i64 0,.str (⟨#[]⟩:ByteArray)])),(4,some ((1,4),.box [.int .i64 a.2,.str (⟨#[]⟩:ByteArray)]))] 2) (fun a=>k2 a.1 a.2=some r) (Zq ?_) (fun a _ h=>?_)
 ·refine cS h rfl (fun h=>?_) fun h=>?_
  ·refine rg ?_
   refine aC h (Zds _ _) fun r25 h=>?_
   exact jn (r25,r7.1) h (sR [(2,1,2),(4,2,1)])
  exact jn (x6,0) h (sR [(2,1,2),(4,2,1)])
 obtain ⟨x9,x10⟩:=a
 subst hk2
 dsimp only at h ⊢
 refine Zq ?_
 refine rg ?_
 refine aC h (Zjn _) fun r11 h=>?_
 refine jL h (fun x14=>mkS [(0,.str r11),(2,.ptr 2 (1,2) 0),(4,.ptr 4 (1,4) 0),(41,.bool x14)] [(2,some ((1,2),.box [.int .i64 0,.str (⟨#[]⟩:ByteArray)])),(4,some ((1,4),.box [.int .i64 x10,.str (⟨#[]⟩:ByteArray)]))] 2) (fun k3 h=>?_) fun x14 h=>?_
 ·refine rg ?_
  refine kS 32 h rfl (fun h=>?_) fun h=>?_
  ·refine aS h fun c23 h=>?_
   refine kS 37 h rfl (fun h=>?_) fun h=>?_
   ·refine aS h fun c24 h=>?_
    exact jn (decide (c24≤122)) h (sR [(2,1,2),(4,1,4)])
   iterate 3 refine ZN rfl (Zq ?_)
   exact jn false h (sR [(2,1,2),(4,1,4)])
  iterate 6 refine ZN rfl (Zq ?_)
  exact jn false h (sR [(2,1,2),(4,1,4)])
 refine jL h (fun x18=>mkS [(0,.str x18),(2,.ptr 2 (1,2) 0),(4,.ptr 4 (1,4) 0)] [(2,some ((1,2),.box [.int .i64 0,.str (⟨#[]⟩:ByteArray)])),(4,some ((1,4),.box [.int .i64 x10,.str (⟨#[]⟩:ByteArray)]))] 2) (fun k4 h=>?_) fun x18 h=>?_
 ·refine cS h rfl (fun h=>?_) fun h=>?_
  ·refine rg ?_
   refine aS h fun c20 h=>?_
   refine bM csB ([(IntKind.wrap .u8 (c20 - 32))]:List Int) ?_
   refine Zny (l:=[(IntKind.wrap .u8 (c20 - 32))]) rfl rfl (Zq ?_)
   refine sS h fun l21 h=>?_
   refine sT h fun s22 h=>?_
   exact jn s22 h (sR [(2,1,2),(4,1,4)])
  exact jn r11 h (sR [(2,1,2),(4,1,4)])
 refine rg ?_
 refine rg ?_
 refine cS h rfl (fun h=>?_) fun h=>?_
 ·refine rg ?_
  cases h
  exact rQ
 refine rg ?_
 refine aC h (ZkT _) fun r19 h=>?_
 refine cS h rfl (fun h=>?_) fun h=>?_
 ·refine rg ?_
  cases h
  exact rQ
 refine rg ?_
 cases h
 exact rQ
structure Str3 where
 a:ByteArray
 b:ByteArray
 c:ByteArray
def Str3.cs (x:Str3):List PV:=[.str x.a,.str x.b,.str x.c]
def Str3.pv (x:Str3):PV:=.agg x.cs
end Go.Proofs.YtmgfammllddkhaaGreatDoor
