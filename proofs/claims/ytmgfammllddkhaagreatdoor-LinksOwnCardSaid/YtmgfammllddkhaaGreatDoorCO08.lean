/- Strings as lists of bytes. | Three strings. No program is -/
import Derived.Test.YtmgfammllddkhaaGreatDoorCO07
set_option linter.unusedSimpArgs false
set_option linter.unusedVariables false
set_option maxHeartbeats 4000000
set_option maxRecDepth 100000
namespace Go.Proofs.YtmgfammllddkhaaGreatDoor
section
open VL Go.RowKit
def bs (l:Q3 Q4):Q1:=⟨l.toArray⟩
theorem Zyk (l:Q3 Q4):(bs l).size=l.length:=rfl
theorem cZ (a b:Q3 Q4):bs a++bs b=bs (a++b):=by
 apply OD
 rw [ByteArray.data_append]
 simp [bs]
theorem Zsg (a b:Q3 Q4):(bs (a++b)).extract 0 a.length=bs a:=by
 apply OD
 rw [UG]
 simp [bs]
theorem ZI {α:Type} {x:Q2 α} {v:α} (h:Tot x (fun r=>r=v)):x=some v:=by
 obtain ⟨w,h1,h2⟩:=h
 rw [h1,h2]
theorem Zzm (p r:Q3 Q4):ZB (bs (p++r)) (bs p)=some true:=by{
have z1:(bs p).size=p.length:=rfl
have z2:(bs (p++r)).size=p.length+r.length:=by rw [Zyk,Yb]
refine ZI ?_
unfold ZB
refine ZX (Zc (fun _=>?_) fun h=>absurd (by omega) h)
refine bP (by omega) (by omega) (by omega) fun m hm _=>?_
have e:m=bs p:=hm.trans (Zsg p r)
refine Zd ?_
rw [e]
simp}
theorem BC {L:Q3 Q4} {n:Nat} {c:Q4} (h:L[n]? = some c):atS (bs L) (n:Int)=some (c.toNat:Int):=by{
obtain ⟨hl,he⟩:=Yd.1 h
rw [vS (show n<(bs L).size from hl)]
subst he
rfl}
theorem Zyl (l:Q3 Q4) (n:Nat):(bs l).extract 0 n=bs (l.take n):=by
 apply OD
 rw [UG]
 simp [bs]
theorem JH {a b:Q3 Q4} (h:bs a=bs b):a=b:=CA (fun s:Q1=>s.data.toList) h
theorem F4 (l:Q3 Q4) (n:Nat) (h:n<=l.length):AH (bs l) (n:Int) ((bs l).size:Int)=some (bs (l.drop n)):=by{
have z:(bs l).size=l.length:=rfl
unfold AH
rw [if_pos ⟨by omega,by omega,by omega⟩]
have e:(((bs l).size:Int)).toNat=l.length:=by omega
rw [e]
congr 1
apply OD
rw [UG]
simp [bs]
rw [H4 (by simp)]}
theorem GD (l:Q3 Q4) (a b:Nat) (h:a<=b) (h2:b<=l.length):AH (bs l) (a:Int) (b:Int)=some (bs ((l.take b).drop a)):=by{
have z:(bs l).size=l.length:=rfl
unfold AH
rw [if_pos ⟨by omega,by omega,by omega⟩]
congr 1
apply OD
rw [UG]
simp [bs,L4]}
theorem WF (l p:Q3 Q4):ZB (bs l) (bs p)=some (p.isPrefixOf l):=by{
cases h:p.isPrefixOf l with
| true=>
  obtain ⟨r,rfl⟩:=YN.1 h
  exact Zzm p r
| false=>
  have z1:(bs p).size=p.length:=rfl
  have z2:(bs l).size=l.length:=rfl
  refine ZI ?_
  unfold ZB
  refine ZX (Zc (fun hl=>?_) fun _=>Zd rfl)
  refine bP (by omega) (by omega) (by omega) fun m hm _=>?_
  refine Zd (Yf fun he=>?_)
  have hq:(((bs p).size:Int)).toNat=p.length:=by omega
  rw [hq] at hm
  have h2:l.take p.length=p:=JH ((Zyl l p.length).symm.trans (hm.symm.trans he))
  have h3:p.isPrefixOf l=true:=YN.2 (by rw [<- h2];exact Z6 _ _)
  rw [h] at h3
  cases h3}
theorem IM (l p:Q3 Q4):ZR (bs l) (bs p)=some (p.isPrefixOf l):=by
 unfold ZR
 rw [WF]
 rfl
end
section
open VL
structure Str3 where
 a:ByteArray
 b:ByteArray
 c:ByteArray
def Str3.cs (x:Str3):Q3 PV:=[.str x.a,.str x.b,.str x.c]
def Str3.pv (x:Str3):PV:=.agg x.cs
def WG:Q2 Str3:=some ⟨⟨#[110,111,105,110,99,108,117,100,101]⟩,⟨#[105,110,99,108,117,100,101,111,110,108,121]⟩,⟨#[111,110,108,121,105,110,99,108,117,100,101]⟩⟩
theorem Zm6  (r:Str3) (h:WG=some r):Zg Tryz.prog 204 [] (r.pv):=by{
refine cF (fun r=>r.pv) h mix Tryz.func204 fun r h=>?_
unfold WG at h
refine Zj ?_
refine rg ?_
refine rg ?_
cases h
exact rQ}
def JI (p0:Q1) (p1:Q1):Q2 (Int×Int):=(WG).bind fun r1=>A3 A9 (fun f2 (x35:Int)=>if decide (x35<3) then (atI ([r1.a,r1.b,r1.c]:Q3 Q1) x35).bind fun c48=>(BV p1 c48).bind fun s49=>(BV s49 ⟨#[62]⟩).bind fun s50=>(ZR p0 s50).bind fun r51=>if r51 then some ((w64 (x35+1)),(s50.size:Int)) else f2 (w64 (x35+1)) else some (0,0)) 0
theorem d8 (p0:Q1) (p1:Q1) (r:Int×Int) (h:JI p0 p1=some r):Zg Tryz.prog 170 [.str p0,.str p1] (.tup [.int .i64 r.1,.int .i64 r.2]):=by{
refine cF (fun r=>.tup [.int .i64 r.1,.int .i64 r.2]) h mix Tryz.func170 fun r h=>?_
unfold JI at h
refine Zj ?_
refine rg ?_
refine rg ?_
refine aC h Zm6 fun r1 h=>?_
refine bl ?_
refine Zz h fun f2 mf2 hf2 h=>?_
refine Zu (α:=Nat×Int) (fun a _=>mkS [(0,.str p0),(1,.str p1),(9,.agg [.str r1.a,.str r1.b,.str r1.c]),(10,.int .i64 a.2)] [] 2) (fun a=>A3 a.1 f2 a.2=some r) (fun a=>a.1) (mf2,0) 2 h (sR []) (fun a _ h=>?_)
obtain ⟨mf2,x35⟩:=a
obtain ⟨mf2,rfl,h⟩:=ZA hf2 h
dsimp only at h ⊢
refine Zj ?_
refine rg ?_
refine cS h rfl (fun h=>?_) fun h=>?_
refine bl ?_
refine rg ?_
obtain ⟨c48,h46,h⟩:=bnd h
refine iS (p:=PV.str) rfl h46 rfl rfl rfl rfl rfl (Zj ?_)
refine rg ?_
refine sT h fun s49 h=>?_
refine sT h fun s50 h=>?_
refine rg ?_
refine aC h (LN _ _) fun r51 h=>?_
refine cS h rfl (fun h=>?_) fun h=>?_
refine rg ?_
cases h
exact rQ
refine rg ?_
exact rn (mf2,(w64 (x35+1))) h (sR [])
refine rg ?_
cases h
exact rQ}
def T4 (p0:Q1):Q2 (Int×Int):=(ZR p0 ⟨#[60,33,45,45]⟩).bind fun r1=>if r1 then (AH p0 4 (p0.size:Int)).bind fun l4=>(strings_Index l4 ⟨#[45,45,62]⟩).bind fun r5=>if decide (0<=r5) then some (9,(w64 ((w64 (4+r5))+3))) else some (9,(p0.size:Int)) else (ZR p0 ⟨#[60,110,111,119,105,107,105,62]⟩).bind fun r6=>letk (fun (_:Unit)=>(JI p0 ⟨#[60]⟩).bind fun r9=>if decide (0<r9.2) then (some (11,r9.2):Q2 (Int×Int)) else (JI p0 ⟨#[60,47]⟩).bind fun r10=>if decide (0<r10.2) then (some (12,r10.2):Q2 (Int×Int)) else (some (0,0):Q2 (Int×Int))) fun k1=>if r6 then (AH p0 8 (p0.size:Int)).bind fun l11=>(strings_Index l11 ⟨#[60,47,110,111,119,105,107,105,62]⟩).bind fun r12=>if decide (0<=r12) then some (10,(w64 ((w64 (8+r12))+9))) else k1 () else k1 ()
theorem Zm7 (p0:Q1) (r:Int×Int) (h:T4 p0=some r):Zg Tryz.prog 167 [.str p0] (.tup [.int .i64 r.1,.int .i64 r.2]):=by{
refine cF (fun r=>.tup [.int .i64 r.1,.int .i64 r.2]) h mix Tryz.func167 fun r h=>?_
unfold T4 at h
refine Zj ?_
refine rg ?_
refine rg ?_
refine aC h (LN _ _) fun r1 h=>?_
refine cS h rfl (fun h=>?_) fun h=>?_
refine rg ?_
refine sS h fun l4 h=>?_
refine aC h (cU _ _) fun r5 h=>?_
refine rg ?_
refine cS h rfl (fun h=>?_) fun h=>?_
refine rg ?_
cases h
exact rQ
refine rg ?_
cases h
exact rQ
refine rg ?_
refine aC h (LN _ _) fun r6 h=>?_
refine FO h fun k1 hk1 h=>?_
refine DM (α:=Unit) (fun _ _=>mkS [(0,.str p0)] [] 2) (fun _=>k1 ()=some r) (Zj ?_) (fun a _ h=>?_)
refine cS h rfl (fun h=>?_) fun h=>?_
refine rg ?_
refine sS h fun l11 h=>?_
refine aC h (cU _ _) fun r12 h=>?_
refine rg ?_
refine cS h rfl (fun h=>?_) fun h=>?_
refine rg ?_
cases h
exact rQ
exact jn () h (sR [])
exact jn () h (sR [])
subst hk1
dsimp only at h ⊢
refine Zj ?_
refine rg ?_
refine aC h (d8 _ _) fun r9 h=>?_
refine rg ?_
refine cS h rfl (fun h=>?_) fun h=>?_
refine rg ?_
cases h
exact rQ
refine rg ?_
refine aC h (d8 _ _) fun r10 h=>?_
refine rg ?_
refine cS h rfl (fun h=>?_) fun h=>?_
refine rg ?_
cases h
exact rQ
refine rg ?_
cases h
exact rQ}
def LP (p0:Q1) (p1:Int):Q2 Int:=A3 A9 (fun f7 (x14:Int)=>letk (fun (x19:Bool)=>if x19 then f7 (w64 (x14+1)) else some x14) fun k8=>if decide (x14<(p0.size:Int)) then (atS p0 x14).bind fun c20=>k8 (decide (c20=p1)) else k8 false) 0
theorem WH (p0:Q1) (p1:Int) (r:Int) (h:LP p0 p1=some r):Zg Tryz.prog 168 [.str p0,.int .u8 p1] (.int .i64 r):=by{
refine cF (fun r=>.int .i64 r) h mix Tryz.func168 fun r h=>?_
unfold LP at h
refine Zj ?_
refine rg ?_
refine rg ?_
refine bl ?_
refine Zz h fun f7 mf7 hf7 h=>?_
refine Zu (α:=Nat×Int) (fun a _=>mkS [(0,.str p0),(1,.int .u8 p1),(5,.int .i64 a.2)] [] 2) (fun a=>A3 a.1 f7 a.2=some r) (fun a=>a.1) (mf7,0) 2 h (sR []) (fun a _ h=>?_)
obtain ⟨mf7,x14⟩:=a
obtain ⟨mf7,rfl,h⟩:=ZA hf7 h
dsimp only at h ⊢
refine Zj ?_
refine jL h (fun x19=>mkS [(0,.str p0),(1,.int .u8 p1),(5,.int .i64 x14),(16,.bool x19)] [] 2) (fun k8 h=>?_) fun x19 h=>?_
refine rg ?_
refine kS 10 h rfl (fun h=>?_) fun h=>?_
refine aS h fun c20 h=>?_
exact jn (decide (c20=p1)) h (sR [])
iterate 5 refine Zw rfl (Zj ?_)
exact jn false h (sR [])
refine cS h rfl (fun h=>?_) fun h=>?_
refine bl ?_
refine rg ?_
exact rn (mf7,(w64 (x14+1))) h (sR [])
refine rg ?_
cases h
exact rQ}
def PN (p0:Q1):Q2 (Int×Int):=(atS p0 0).bind fun c1=>letk (fun (_:Unit)=>(some (0,0):Q2 (Int×Int))) fun k1=>if decide (c1=60) then (T4 p0).bind fun r7=>some (r7.1,r7.2) else if decide (c1=123) then (LP p0 123).bind fun r8=>if decide (2<=r8) then some (3,r8) else k1 () else if decide (c1=125) then (LP p0 125).bind fun r9=>if decide (2<=r9) then some (4,r9) else k1 () else if decide (c1=91) then (LP p0 91).bind fun r10=>if decide (2<=r10) then some (5,2) else k1 () else if decide (c1=93) then (LP p0 93).bind fun r11=>if decide (2<=r11) then some (6,2) else k1 () else if decide (c1=124) then some (7,1) else if decide (c1=61) then some (8,1) else if decide (c1=10) then some (2,1) else k1 ()
theorem Zm8 (p0:Q1) (r:Int×Int) (h:PN p0=some r):Zg Tryz.prog 100 [.str p0] (.tup [.int .i64 r.1,.int .i64 r.2]):=by{
refine cF (fun r=>.tup [.int .i64 r.1,.int .i64 r.2]) h mix Tryz.func100 fun r h=>?_
unfold PN at h
refine Zj ?_
refine rg ?_
refine rg ?_
refine aS h fun c1 h=>?_
refine FO h fun k1 hk1 h=>?_
refine DM (α:=Unit) (fun _ _=>mkS [] [] 2) (fun _=>k1 ()=some r) (Zj ?_) (fun a _ h=>?_)
refine bl ?_
refine rg ?_
refine cS h rfl (fun h=>?_) fun h=>?_
refine rg ?_
refine aC h (Zm7 _) fun r7 h=>?_
cases h
exact rQ
refine rg ?_
refine cS h rfl (fun h=>?_) fun h=>?_
refine rg ?_
refine aC h (WH _ _) fun r8 h=>?_
refine rg ?_
refine cS h rfl (fun h=>?_) fun h=>?_
refine rg ?_
cases h
exact rQ
exact jn () h (sR [])
refine rg ?_
refine cS h rfl (fun h=>?_) fun h=>?_
refine rg ?_
refine aC h (WH _ _) fun r9 h=>?_
refine rg ?_
refine cS h rfl (fun h=>?_) fun h=>?_
refine rg ?_
cases h
exact rQ
exact jn () h (sR [])
refine rg ?_
refine cS h rfl (fun h=>?_) fun h=>?_
refine rg ?_
refine aC h (WH _ _) fun r10 h=>?_
refine cS h rfl (fun h=>?_) fun h=>?_
refine rg ?_
cases h
exact rQ
exact jn () h (sR [])
refine rg ?_
refine cS h rfl (fun h=>?_) fun h=>?_
refine rg ?_
refine aC h (WH _ _) fun r11 h=>?_
refine cS h rfl (fun h=>?_) fun h=>?_
refine rg ?_
cases h
exact rQ
exact jn () h (sR [])
refine rg ?_
refine cS h rfl (fun h=>?_) fun h=>?_
refine rg ?_
cases h
exact rQ
refine rg ?_
refine cS h rfl (fun h=>?_) fun h=>?_
refine rg ?_
cases h
exact rQ
refine rg ?_
refine cS h rfl (fun h=>?_) fun h=>?_
refine rg ?_
cases h
exact rQ
exact jn () h (sR [])
subst hk1
dsimp only at h ⊢
refine Zj ?_
refine rg ?_
cases h
exact rQ}
def T5 (p0:Q1):Q2 ((Q3 Tok)×Int):=if decide (8192<(p0.size:Int)) then some ([],3) else A3 A9 (fun f5 ((x22,x23,x24):Int×Int×(Q3 Tok))=>if decide (x23<(p0.size:Int)) then (AH p0 x23 (p0.size:Int)).bind fun l31=>(PN l31).bind fun r32=>if decide (r32.1=0) then f5 (x22,(w64 (x23+1)),x24) else letk (fun (x34:Q3 Tok)=>(A8 24 x34 [(⟨r32.1,x23,(w64 (x23+r32.2))⟩:Tok)]).bind fun l35=>f5 ((w64 (x23+r32.2)),(w64 (x23+r32.2)),l35)) fun k6=>if decide (x22<x23) then (A8 24 x24 [(⟨1,x22,x23⟩:Tok)]).bind fun l36=>k6 l36 else k6 x24 else letk (fun (x38:Q3 Tok)=>(some (x38,0):Q2 ((Q3 Tok)×Int))) fun k7=>if decide (x22<(p0.size:Int)) then (A8 24 x24 [(⟨1,x22,(p0.size:Int)⟩:Tok)]).bind fun l39=>k7 l39 else k7 x24) (0,0,([]:Q3 Tok))
theorem Zn2 (p0:Q1) (r:(Q3 Tok)×Int) (h:T5 p0=some r):Zg Tryz.prog 62 [.str p0] (.tup [.sl (List.map Tok.cs r.1),.int .i64 r.2]):=by{
refine cF (fun r=>.tup [.sl (List.map Tok.cs r.1),.int .i64 r.2]) h mix Tryz.func62 fun r h=>?_
unfold T5 at h
refine Zj ?_
refine rg ?_
refine rg ?_
refine cS h rfl (fun h=>?_) fun h=>?_
refine rg ?_
cases h
exact rQ
refine rg ?_
refine rg ?_
refine rg ?_
refine bl ?_
refine Zz h fun f5 mf5 hf5 h=>?_
refine Zu (α:=Nat×(Int×Int×(Q3 Tok))) (fun a _=>mkS [(0,.str p0),(4,.row 4 (1,4)),(5,.int .i64 a.2.1),(6,.int .i64 a.2.2.1)] [(4,some ((1,4),.row 105 3 false (List.map Tok.cs a.2.2.2)))] 2) (fun a=>A3 a.1 f5 a.2=some r) (fun a=>a.1) (mf5,0,0,([]:Q3 Tok)) 2 h (bA [] 4 105 3 rfl ⟨rfl,rfl,rfl,rfl,trivial⟩ ⟨⟨rfl,rfl⟩,trivial⟩ rfl) (fun a _ h=>?_)
obtain ⟨mf5,x22,x23,x24⟩:=a
obtain ⟨mf5,rfl,h⟩:=ZA hf5 h
dsimp only at h ⊢
refine Zj ?_
refine rg ?_
refine cS h rfl (fun h=>?_) fun h=>?_
refine bl ?_
refine rg ?_
refine sS h fun l31 h=>?_
refine aC h (Zm8 _) fun r32 h=>?_
refine rg ?_
refine cS h rfl (fun h=>?_) fun h=>?_
refine rg ?_
exact rn (mf5,x22,(w64 (x23+1)),x24) h (sR [(4,1,4)])
refine rg ?_
refine jL h (fun x34=>mkS [(0,.str p0),(4,.row 4 (1,4)),(6,.int .i64 x23),(7,.int .i64 r32.1),(8,.int .i64 r32.2)] [(4,some ((1,4),.row 105 3 false (List.map Tok.cs x34)))] 2) (fun k6 h=>?_) fun x34 h=>?_
refine cS h rfl (fun h=>?_) fun h=>?_
refine rg ?_
refine CT (M:=([(⟨1,x22,x23⟩:Tok)]:Q3 Tok)) (f:=Tok.cs) rfl rfl rfl rfl (Yk rfl) rfl (Zj ?_)
refine pR Tok.cs h fun l36 h=>?_
exact jn l36 h (sR [(4,6,5)])
exact jn x24 h (sR [(4,1,4)])
refine rg ?_
refine CT (M:=([(⟨r32.1,x23,(w64 (x23+r32.2))⟩:Tok)]:Q3 Tok)) (f:=Tok.cs) rfl rfl rfl rfl (Yk rfl) rfl (Zj ?_)
refine pR Tok.cs h fun l35 h=>?_
refine rg ?_
refine rg ?_
exact rn (mf5,(w64 (x23+r32.2)),(w64 (x23+r32.2)),l35) h (sR [(4,2,8)])
refine rg ?_
refine jL h (fun x38=>mkS [(4,.row 4 (1,4))] [(4,some ((1,4),.row 105 3 false (List.map Tok.cs x38)))] 2) (fun k7 h=>?_) fun x38 h=>?_
refine cS h rfl (fun h=>?_) fun h=>?_
refine rg ?_
refine CT (M:=([(⟨1,x22,(p0.size:Int)⟩:Tok)]:Q3 Tok)) (f:=Tok.cs) rfl rfl rfl rfl (Yk rfl) rfl (Zj ?_)
refine pR Tok.cs h fun l39 h=>?_
exact jn l39 h (sR [(4,4,6)])
exact jn x24 h (sR [(4,1,4)])
refine rg ?_
cases h
exact rQ}
def HU (p0:Q1) (p1:Tok):Q2 Q1:=letk (fun (x1:Bool)=>if x1 then (some (⟨#[]⟩:Q1):Q2 Q1) else (AH p0 p1.from_ p1.to_).bind fun l2=>some l2) fun k1=>if decide (p1.from_<0) then k1 true else if decide (p1.to_<p1.from_) then k1 true else k1 (decide ((p0.size:Int)<p1.to_))
theorem kQ (p0:Q1) (p1:Tok) (r:Q1) (h:HU p0 p1=some r):Zg Tryz.prog 101 [.str p0,p1.pv] (.str r):=by{
refine cF (fun r=>.str r) h mix Tryz.func101 fun r h=>?_
unfold HU at h
refine Zj ?_
refine rg ?_
refine jL h (fun x1=>mkS [(0,.str p0),(3,.ptr 3 (1,3) 0),(21,.bool x1)] [(3,some ((1,3),.box (Tok.cs p1)))] 2) (fun k1 h=>?_) fun x1 h=>?_
refine rg ?_
refine kS 8 h rfl (fun h=>?_) fun h=>?_
iterate 10 refine Zw rfl (Zj ?_)
exact jn true h (sR [(3,1,0)])
refine kS 15 h rfl (fun h=>?_) fun h=>?_
iterate 5 refine Zw rfl (Zj ?_)
exact jn true h (sR [(3,1,0)])
exact jn (decide ((p0.size:Int)<p1.to_)) h (sR [(3,1,0)])
refine cS h rfl (fun h=>?_) fun h=>?_
refine rg ?_
cases h
exact rQ
refine rg ?_
refine sS h fun l2 h=>?_
cases h
exact rQ}
def KD (p0:Q1) (p1:Tok):Q2 Int:=letk (fun (x1:Q1)=>(HU p0 p1).bind fun r2=>(JI r2 x1).bind fun r3=>if decide (r3.2=(r2.size:Int)) then some r3.1 else (some 0:Q2 Int)) fun k1=>if decide (p1.kind=11) then k1 ⟨#[60]⟩ else if decide (p1.kind=12) then k1 ⟨#[60,47]⟩ else some 0
theorem kR (p0:Q1) (p1:Tok) (r:Int) (h:KD p0 p1=some r):Zg Tryz.prog 105 [.str p0,p1.pv] (.int .i64 r):=by{
refine cF (fun r=>.int .i64 r) h mix Tryz.func105 fun r h=>?_
unfold KD at h
refine Zj ?_
refine rg ?_
refine rg ?_
refine rg ?_
refine jL h (fun x1=>mkS [(0,.str p0),(3,.ptr 3 (1,3) 0),(5,.str x1)] [(3,some ((1,3),.box (Tok.cs p1)))] 2) (fun k1 h=>?_) fun x1 h=>?_
refine bl ?_
refine rg ?_
refine cS h rfl (fun h=>?_) fun h=>?_
exact jn ⟨#[60]⟩ h (sR [(3,1,0)])
refine rg ?_
refine cS h rfl (fun h=>?_) fun h=>?_
refine rg ?_
exact jn ⟨#[60,47]⟩ h (sR [(3,1,0)])
refine rg ?_
cases h
exact rQ
refine rg ?_
refine aC h (kQ _ _) fun r2 h=>?_
refine rg ?_
refine aC h (d8 _ _) fun r3 h=>?_
refine rg ?_
refine cS h rfl (fun h=>?_) fun h=>?_
refine rg ?_
cases h
exact rQ
refine rg ?_
cases h
exact rQ}
def LQ (p0:Int):Q2 Q1:=(atI ([⟨#[110,111,105,110,99,108,117,100,101]⟩,⟨#[105,110,99,108,117,100,101,111,110,108,121]⟩,⟨#[111,110,108,121,105,110,99,108,117,100,101]⟩]:Q3 Q1) (w64 (p0-1))).bind fun c1=>(BV ⟨#[60]⟩ c1).bind fun s2=>(BV s2 ⟨#[62]⟩).bind fun s3=>some s3
theorem ZkP (p0:Int) (r:Q1) (h:LQ p0=some r):Zg Tryz.prog 112 [.int .i64 p0] (.str r):=by{
refine cF (fun r=>.str r) h mix Tryz.func112 fun r h=>?_
unfold LQ at h
refine Zj ?_
refine rg ?_
refine rg ?_
obtain ⟨c1,h1,h⟩:=bnd h
refine iS (p:=PV.str) rfl h1 rfl rfl rfl rfl rfl (Zj ?_)
refine sT h fun s2 h=>?_
refine sT h fun s3 h=>?_
cases h
exact rQ}
def nm1:Q3 Q4:=[110,111,105,110,99,108,117,100,101]
def nm2:Q3 Q4:=[105,110,99,108,117,100,101,111,110,108,121]
def nm3:Q3 Q4:=[111,110,108,121,105,110,99,108,117,100,101]
def AE (pfx l:Q3 Q4):Int×Int:=if (pfx++nm1 ++ [62]).isPrefixOf l then (1,((pfx++nm1 ++ [62]).length:Int)) else if (pfx++nm2 ++ [62]).isPrefixOf l then (2,((pfx++nm2 ++ [62]).length:Int)) else if (pfx++nm3 ++ [62]).isPrefixOf l then (3,((pfx++nm3 ++ [62]).length:Int)) else (0,0)
theorem HY {α β:Type} {n m:Nat} {F:(α->Q2 β)->α->Q2 β} {a:α} {R:β->Prop} (e:m=n+1) (h:Tot (F (A3 n F) a) R):Tot (A3 m F a) R:=by
 subst e
 exact h
theorem LR (a b:Q3 Q4) (h:a.length+b.length<=9223372036854775807):BV (bs a) (bs b)=some (bs (a++b)):=by
 rw [VI (show (bs a).size+(bs b).size<=_ from h),cZ]
theorem d9 (pfx l:Q3 Q4) (h:pfx.length<=10):JI (bs l) (bs pfx)=some (AE pfx l):=by{
have n1:nm1.length=9:=rfl
have n2:nm2.length=11:=rfl
have n3:nm3.length=11:=rfl
have z:([62]:Q3 Q4).length=1:=rfl
have l1:(pfx++nm1).length=pfx.length+9:=by rw [Yb,n1]
have l2:(pfx++nm2).length=pfx.length+11:=by rw [Yb,n2]
have l3:(pfx++nm3).length=pfx.length+11:=by rw [Yb,n3]
refine ZI ?_
unfold JI WG
refine Za rfl ?_
refine HY (n:=4611686018427387903) rfl (Zc (fun _=>?_) fun h=>absurd (by decide) h)
refine Za (v:=bs nm1) rfl ?_
refine Za (LR pfx nm1 (by omega)) ?_
refine Za (LR (pfx++nm1) [62] (by omega)) ?_
refine Za (IM l (pfx++nm1 ++ [62])) ?_
unfold AE
refine Zi (fun h1=>?_) fun h1=>?_
rw [if_pos h1]
exact Zd rfl
rw [if_neg (by rw [h1];decide)]
refine HY (n:=4611686018427387902) rfl (Zc (fun _=>?_) fun h=>absurd (by decide) h)
refine Za (v:=bs nm2) rfl ?_
refine Za (LR pfx nm2 (by omega)) ?_
refine Za (LR (pfx++nm2) [62] (by omega)) ?_
refine Za (IM l (pfx++nm2 ++ [62])) ?_
refine Zi (fun h2=>?_) fun h2=>?_
rw [if_pos h2]
exact Zd rfl
rw [if_neg (by rw [h2];decide)]
refine HY (n:=4611686018427387901) rfl (Zc (fun _=>?_) fun h=>absurd (by decide) h)
refine Za (v:=bs nm3) rfl ?_
refine Za (LR pfx nm3 (by omega)) ?_
refine Za (LR (pfx++nm3) [62] (by omega)) ?_
refine Za (IM l (pfx++nm3 ++ [62])) ?_
refine Zi (fun h3=>?_) fun h3=>?_
rw [if_pos h3]
exact Zd rfl
rw [if_neg (by rw [h3];decide)]
exact HY (n:=4611686018427387900) rfl (Zd rfl)}
def BL (c:Q4):Q3 Q4->Nat | []=>0 | x::l=>if x=c then BL c l+1 else 0
theorem T6 {c x:Q4} {l:Q3 Q4} (h:x=c):BL c (x::l)=BL c l+1:=by rw [BL,if_pos h]
theorem PO {c x:Q4} {l:Q3 Q4} (h:¬ x=c):BL c (x::l)=0:=by rw [BL,if_neg h]
theorem dA (c:Q4):∀ l:Q3 Q4,BL c l<=l.length
 | []=>Yn _
 | x::l=>by
   have:=dA c l
   unfold BL
   split
   simp;omega
   exact YJ _
theorem kT (c:Q4):∀ (l:Q3 Q4) (i:Nat),i<=BL c l->i+BL c (l.drop i)=BL c l
 | l,0,_=>by simp
 | [],i+1,h=>by simp [BL] at h
 | x::l,i+1,h=>by
   by_cases hx:x=c
   rw [T6 hx] at h ⊢
   have:=kT c l i (by omega)
   simp only [List.drop_succ_cons]
   omega
   rw [PO hx] at h
   omega
theorem WI (c:Q4) (l:Q3 Q4) (h:l.length<=1000000):LP (bs l) (c.toNat:Int)=some (BL c l:Int):=by{
have z:(bs l).size=l.length:=rfl
refine ZI ?_
unfold LP
refine ZF (fun i=>0<=i/\i<=(BL c l:Int)) (fun i=>l.length-i.toNat) ⟨Int.le_refl _,by omega⟩ (by omega) fun i rec hJ ih=>?_
obtain ⟨h0,h1⟩:=hJ
obtain ⟨n,rfl⟩:∃ n:Nat,i=(n:Int):=⟨i.toNat,by omega⟩
have hle:=dA c l
have hd:=kT c l n (by omega)
refine ZX (Zc (fun hl=>?_) fun hl=>?_)
have hn:n<l.length:=by omega
have e:l[n]? = some l[n]:=Yc hn
refine Za (BC e) ?_
rw [Yt hn] at hd
refine Zc (fun hc=>?_) fun hc=>?_
have hx:l[n]=c:=GM.1 (by omega)
rw [T6 hx] at hd
rw [ZK]
exact ih _ ⟨by omega,by omega⟩ (by omega)
have hx:¬ l[n]=c:=fun hx=>hc (by rw [hx])
rw [PO hx] at hd
exact Zd (by omega)
exact Zd (by omega)}
def cmt:Q3 Q4:=[60,33,45,45]
def cmtE:Q3 Q4:=[45,45,62]
def nwk:Q3 Q4:=[60,110,111,119,105,107,105,62]
def nwkE:Q3 Q4:=[60,47,110,111,119,105,107,105,62]
def DQ (l:Q3 Q4):Int×Int:=if cmt.isPrefixOf l=true then (if 0<=Lib.index (l.drop 4) cmtE then (9,4+Lib.index (l.drop 4) cmtE+3) else (9,(l.length:Int))) else if nwk.isPrefixOf l=true/\0<=Lib.index (l.drop 8) nwkE then (10,8+Lib.index (l.drop 8) nwkE+9) else if 0<(AE [60] l).2 then (11,(AE [60] l).2) else if 0<(AE [60,47] l).2 then (12,(AE [60,47] l).2) else (0,0)
theorem dB (l p:Q3 Q4) (h:l.length<=1000000):strings_Index (bs l) (bs p)=some (Lib.index l p):=by
 unfold strings_Index
 rw [if_pos (show (bs l).size<4294967281 from by have:(bs l).size=l.length:=rfl;omega)]
 rfl
theorem NA {p l:Q3 Q4} (h:p.isPrefixOf l=true):p.length<=l.length:=(YN.1 h).length_le
theorem Zl9 (l:Q3 Q4) (h:l.length<=1000000):T4 (bs l)=some (DQ l):=by{
have z:(bs l).size=l.length:=rfl
refine ZI ?_
unfold T4 DQ
refine Za (IM l cmt) ?_
refine Zi (fun h1=>?_) fun h1=>?_
rw [if_pos h1]
have h4:4<=l.length:=NA h1
refine Za (F4 l 4 h4) ?_
refine Za (dB (l.drop 4) cmtE (by simp;omega)) ?_
have hx:=Lib.index_le (l.drop 4) cmtE
simp only [Yx] at hx
refine Zc (fun h2=>?_) fun h2=>?_
rw [if_pos h2]
have e1:w64 (4+Lib.index (l.drop 4) cmtE)=4+Lib.index (l.drop 4) cmtE:=ZK
rw [e1,ZK]
exact Zd rfl
rw [if_neg h2]
exact Zd rfl
rw [if_neg (by rw [h1];decide)]
refine Za (IM l nwk) ?_
have tags:Tot ((JI (bs l) ⟨#[60]⟩).bind fun r9=>if decide (0<r9.2)=true then (some (11,r9.2):Q2 (Int×Int)) else (JI (bs l) ⟨#[60,47]⟩).bind fun r10=>if decide (0<r10.2)=true then some (12,r10.2) else some (0,0)) fun r=>r=if 0<(AE [60] l).2 then (11,(AE [60] l).2) else if 0<(AE [60,47] l).2 then (12,(AE [60,47] l).2) else (0,0):=by
 refine Za (d9 [60] l (by decide)) ?_
 refine Zc (fun h2=>?_) fun h2=>?_
 rw [if_pos h2]
 exact Zd rfl
 rw [if_neg h2]
 refine Za (d9 [60,47] l (by decide)) ?_
 refine Zc (fun h3=>?_) fun h3=>?_
 rw [if_pos h3]
 exact Zd rfl
 rw [if_neg h3]
 exact Zd rfl
refine ZX (Zi (fun h2=>?_) fun h2=>?_)
have h8:8<=l.length:=NA h2
refine Za (F4 l 8 h8) ?_
refine Za (dB (l.drop 8) nwkE (by simp;omega)) ?_
have hx:=Lib.index_le (l.drop 8) nwkE
simp only [Yx] at hx
refine Zc (fun h3=>?_) fun h3=>?_
rw [if_pos ⟨h2,h3⟩]
have e1:w64 (8+Lib.index (l.drop 8) nwkE)=8+Lib.index (l.drop 8) nwkE:=ZK
rw [e1,ZK]
exact Zd rfl
rw [if_neg (fun h=>h3 h.2)]
exact tags
rw [if_neg (fun h=>by rw [h2] at h;cases h.1)]
exact tags}
def CZ (c:Q4) (l:Q3 Q4):Int×Int:=if c=60 then DQ l else if c=123 then (if 2<=BL 123 l then (3,(BL 123 l:Int)) else (0,0)) else if c=125 then (if 2<=BL 125 l then (4,(BL 125 l:Int)) else (0,0)) else if c=91 then (if 2<=BL 91 l then (5,2) else (0,0)) else if c=93 then (if 2<=BL 93 l then (6,2) else (0,0)) else if c=124 then (7,1) else if c=61 then (8,1) else if c=10 then (2,1) else (0,0)
def AY:Q3 Q4->Int×Int | []=>(0,0) | c::l=>CZ c (c::l)
theorem u8c {c k:Q4}:((c.toNat:Int)=(k.toNat:Int))↔c=k:=
 ⟨fun h=>GM.1 (by omega),fun h=>by rw [h]⟩
theorem Zma (c:Q4) (l:Q3 Q4) (h:(c::l).length<=1000000):PN (bs (c::l))=some (AY (c::l)):=by{
refine ZI ?_
rw [show AY (c::l)=CZ c (c::l) from rfl]
unfold PN CZ
refine Za (BC (L:=c::l) (n:=0) rfl) ?_
refine ZX ?_
refine Zc (fun h1=>?_) fun h1=>?_
rw [if_pos ((u8c (k:=60)).1 h1)]
exact Za (Zl9 _ h) (Zd rfl)
rw [if_neg fun e=>h1 ((u8c (k:=60)).2 e)]
refine Zc (fun h2=>?_) fun h2=>?_
rw [if_pos ((u8c (k:=123)).1 h2)]
refine Za (WI 123 _ h) (Zc (fun h3=>?_) fun h3=>?_)
rw [if_pos (by omega)];exact Zd rfl
rw [if_neg (by omega)];exact Zd rfl
rw [if_neg fun e=>h2 ((u8c (k:=123)).2 e)]
refine Zc (fun h3=>?_) fun h3=>?_
rw [if_pos ((u8c (k:=125)).1 h3)]
refine Za (WI 125 _ h) (Zc (fun h3=>?_) fun h3=>?_)
rw [if_pos (by omega)];exact Zd rfl
rw [if_neg (by omega)];exact Zd rfl
rw [if_neg fun e=>h3 ((u8c (k:=125)).2 e)]
refine Zc (fun h4=>?_) fun h4=>?_
rw [if_pos ((u8c (k:=91)).1 h4)]
refine Za (WI 91 _ h) (Zc (fun h3=>?_) fun h3=>?_)
rw [if_pos (by omega)];exact Zd rfl
rw [if_neg (by omega)];exact Zd rfl
rw [if_neg fun e=>h4 ((u8c (k:=91)).2 e)]
refine Zc (fun h5=>?_) fun h5=>?_
rw [if_pos ((u8c (k:=93)).1 h5)]
refine Za (WI 93 _ h) (Zc (fun h3=>?_) fun h3=>?_)
rw [if_pos (by omega)];exact Zd rfl
rw [if_neg (by omega)];exact Zd rfl
rw [if_neg fun e=>h5 ((u8c (k:=93)).2 e)]
refine Zc (fun h6=>?_) fun h6=>?_
rw [if_pos ((u8c (k:=124)).1 h6)]
exact Zd rfl
rw [if_neg fun e=>h6 ((u8c (k:=124)).2 e)]
refine Zc (fun h7=>?_) fun h7=>?_
rw [if_pos ((u8c (k:=61)).1 h7)]
exact Zd rfl
rw [if_neg fun e=>h7 ((u8c (k:=61)).2 e)]
refine Zc (fun h8=>?_) fun h8=>?_
rw [if_pos ((u8c (k:=10)).1 h8)]
exact Zd rfl
rw [if_neg fun e=>h8 ((u8c (k:=10)).2 e)]
exact Zd rfl}
def BD (L:Q3 Q4):Nat->Nat->Nat->Q3 Tok | 0,st,_=>if st<L.length then [⟨1,(st:Int),(L.length:Int)⟩] else [] | f+1,st,i=>if i<L.length then (if (AY (L.drop i)).1=0 then BD L f st (i+1) else (if st<i then [⟨1,(st:Int),(i:Int)⟩] else [])++⟨(AY (L.drop i)).1,(i:Int),(i:Int)+(AY (L.drop i)).2⟩::BD L f (i+(AY (L.drop i)).2.toNat) (i+(AY (L.drop i)).2.toNat)) else if st<L.length then [⟨1,(st:Int),(L.length:Int)⟩] else []
theorem kU {L:Q3 Q4} {st i:Nat} (h:¬ i<L.length):∀ f,BD L f st i=if st<L.length then [⟨1,(st:Int),(L.length:Int)⟩] else []
 | 0=>rfl
 | f+1=>by
   unfold BD
   rw [if_neg h]
theorem WJ (pfx l:Q3 Q4):(AE pfx l=(0,0))\/((1<=(AE pfx l).1/\(AE pfx l).1<=3)/\1<=(AE pfx l).2/\(AE pfx l).2<=(l.length:Int)):=by{
have z:([62]:Q3 Q4).length=1:=rfl
unfold AE
split
rename_i h
have:=NA h
simp only [Yb] at this ⊢
exact .inr ⟨⟨by decide,by decide⟩,by omega,by omega⟩
split
rename_i h
have:=NA h
simp only [Yb] at this ⊢
exact .inr ⟨⟨by decide,by decide⟩,by omega,by omega⟩
split
rename_i h
have:=NA h
simp only [Yb] at this ⊢
exact .inr ⟨⟨by decide,by decide⟩,by omega,by omega⟩
exact .inl rfl}
def PP (l:Q3 Q4) (q:Int×Int):Prop:=q.1=0\/((2<=q.1/\q.1<=12)/\(1<=q.2/\q.2<=(l.length:Int))/\(q.1=10->17<=q.2)/\(q.1=11->0<(AE [60] l).2/\q.2=(AE [60] l).2))
theorem fo0 {l:Q3 Q4} (n:Int):PP l (0,n):=.inl rfl
theorem fo {l:Q3 Q4} {k n:Int} (h1:2<=k/\k<=12) (h2:1<=n/\n<=(l.length:Int)) (h3:k=10->17<=n) (h4:k=11->0<(AE [60] l).2/\n=(AE [60] l).2):PP l (k,n):=.inr ⟨h1,h2,h3,h4⟩
theorem Zuq (l:Q3 Q4) (h:l≠[]):PP l (DQ l):=by{
have hl:1<=l.length:=List.length_pos_iff.2 h
unfold DQ
split
rename_i h1
have h4:4<=l.length:=NA h1
split
rename_i h2
have:=Lib.index_room _ _ h2
have z:cmtE.length=3:=rfl
simp only [Yx] at this
exact fo ⟨by decide,by decide⟩ ⟨by omega,by omega⟩ nofun nofun
exact fo ⟨by decide,by decide⟩ ⟨by omega,by omega⟩ nofun nofun
split
rename_i h2
have h8:8<=l.length:=NA h2.1
have:=Lib.index_room _ _ h2.2
have z:nwkE.length=9:=rfl
simp only [Yx] at this
exact fo ⟨by decide,by decide⟩ ⟨by omega,by omega⟩ (fun _=>by omega) nofun
split
rename_i h3
rcases WJ [60] l with h4 | h4
rw [h4] at h3;cases h3
exact fo ⟨by decide,by decide⟩ h4.2 nofun fun _=>⟨h3,rfl⟩
split
rename_i h3
rcases WJ [60,47] l with h4 | h4
rw [h4] at h3;cases h3
exact fo ⟨by decide,by decide⟩ h4.2 nofun nofun
exact fo0 _}
theorem PQ:∀ l:Q3 Q4,PP l (AY l)
 | []=>.inl rfl
 | c::l=>by
   have r (k:Q4):=dA k (c::l)
   show PP (c::l) (CZ c (c::l))
   unfold CZ
   split
   exact Zuq _ (by simp)
   have hl:1<=(c::l).length:=by simp
   have r123:=r 123
   have r125:=r 125
   have r91:=r 91
   have r93:=r 93
   repeat' split
   all_goals first
    | exact fo0 _
    | exact fo ⟨by decide,by decide⟩ ⟨by omega,by omega⟩ nofun nofun
theorem PR (a b:Q3 Tok) (h:a.length+b.length<=1000000):A8 24 a b=some (a++b):=JD 1000000 h (by decide) (by decide)
theorem kV (L:Q3 Q4) (h:L.length<=8192):T5 (bs L)=some (BD L L.length 0 0,0):=by{
have z:(bs L).size=L.length:=rfl
refine ZI ?_
unfold T5
refine Zc (fun h2=>absurd h2 (by omega)) fun _=>?_
refine ZF (fun a:Int×Int×Q3 Tok=>∃ st i f:Nat,a.1=(st:Int)/\a.2.1=(i:Int)/\st<=i/\i<=L.length/\L.length<=i+f/\a.2.2.length<=2 * i/\a.2.2++BD L f st i=BD L L.length 0 0)
 (fun a=>L.length-a.2.1.toNat) ⟨0,0,L.length,rfl,rfl,by omega,by omega,by omega,by simp,rfl⟩ (by dsimp only;omega) ?_
rintro ⟨x,y,acc⟩ rec ⟨st,i,f,hx,hy,h1,h3,h4,h5,h6⟩ ih
dsimp only at hx hy h5 h6
subst hx hy
dsimp only at ih ⊢
refine Zc (fun hi=>?_) fun hi=>?_
have hi':i<L.length:=by omega
obtain ⟨f,rfl⟩:∃ f',f=f'+1:=⟨f-1,by omega⟩
have hd:L.drop i=L[i]::L.drop (i+1):=Yt hi'
have hlen:(L.drop i).length=L.length-i:=Yx
refine Za (F4 L i (by omega)) ?_
have hf:PN (bs (L.drop i))=some (AY (L.drop i)):=by
 rw [hd]
 exact Zma _ _ (by rw [<- hd];omega)
refine Za hf ?_
have hok:=PQ (L.drop i)
rw [BD,if_pos hi'] at h6
generalize hq:AY (L.drop i)=q at hok h6 ⊢
refine Zc (fun h0=>?_) fun h0=>?_
rw [if_pos h0] at h6
rw [ZK]
exact ih (st,((i:Int)+1),acc) ⟨st,i+1,f,rfl,by simp,by omega,by omega,by omega,by dsimp only;omega,h6⟩ (by dsimp only;omega)
rw [if_neg h0] at h6
rcases hok with hok | hok
exact absurd hok h0
obtain ⟨_,⟨k1,k2⟩,_⟩:=hok
have e1:w64 ((i:Int)+q.2)=(i:Int)+q.2:=ZK
have e2:(i:Int)+q.2=((i+q.2.toNat:Nat):Int):=by omega
refine Zt (fun K=>∀ l':Q3 Tok,l'.length<=2 * i+1->l'++⟨q.1,(i:Int),(i:Int)+q.2⟩::BD L f (i+q.2.toNat) (i+q.2.toNat)=BD L L.length 0 0->Tot (K l') fun r=>r=(BD L L.length 0 0,0)) (fun l' hl he=>?_) fun K hK=>?_
rw [e1]
refine Za (PR l' [⟨q.1,(i:Int),(i:Int)+q.2⟩] (by simp;omega)) ?_
refine ih ((i:Int)+q.2,(i:Int)+q.2,l' ++ [⟨q.1,(i:Int),(i:Int)+q.2⟩]) ⟨i+q.2.toNat,i+q.2.toNat,f,e2,e2,Nat.le_refl _,by omega,by omega,by simp;omega,?_⟩ (by dsimp only;omega)
rw [YM]
exact he
refine Zc (fun h7=>?_) fun h7=>?_
rw [if_pos (by omega)] at h6
refine Za (PR acc [⟨1,(st:Int),(i:Int)⟩] (by simp;omega)) ?_
refine hK _ (by simp;omega) ?_
rw [YM]
exact h6
rw [if_neg (by omega)] at h6
exact hK acc (by omega) h6
rw [kU (by omega)] at h6
refine ZX (Zc (fun h7=>?_) fun h7=>?_)
rw [if_pos (by omega)] at h6
refine Za (PR acc [⟨1,(st:Int),((bs L).size:Int)⟩] (by simp;omega)) ?_
refine Zd ?_
rw [<- h6]
rfl
rw [if_neg (by omega)] at h6
refine Zd ?_
rw [<- h6,YB]}
theorem kW {p l:Q3 Q4} (h:p.length<=l.length):decide (bs (l.take p.length)=bs p)=p.isPrefixOf l:=by{
cases hb:p.isPrefixOf l with
| true=>
  obtain ⟨r,rfl⟩:=YN.1 hb
  rw [ML]
  exact Yh rfl
| false=>
  refine Yf fun he=>?_
  have e:=JH he
  have:p.isPrefixOf l=true:=YN.2 (by rw [<- e];exact Z6 _ _)
  rw [hb] at this
  cases this}
theorem Zth {p l:Q3 Q4} (h:l.length<p.length):p.isPrefixOf l=false:=by{
cases hb:p.isPrefixOf l with
| false=>rfl
| true=>
  have:=(YN.1 hb).length_le
  omega}
theorem PS (L p:Q3 Q4) (i:Nat) (h:i<=L.length) (hL:L.length<=1000000):BB (bs L) (i:Int) (bs p)=some (p.isPrefixOf (L.drop i)):=by{
have z:(bs L).size=L.length:=rfl
have zp:(bs p).size=p.length:=rfl
have hd:(L.drop i).length=L.length-i:=Yx
refine ZI ?_
unfold BB
refine ZX (Zc (fun _=>?_) fun h=>absurd (by omega) h)
refine Zc (fun _=>?_) fun h=>absurd (by omega) h
rw [ZK (n:=((bs L).size:Int)-(i:Int))]
refine Zc (fun hl=>?_) fun hl=>?_
have e:w64 ((i:Int)+((bs p).size:Int))=((i+p.length:Nat):Int):=by rw [ZK];omega
rw [e]
refine Za (GD L i (i+p.length) (by omega) (by omega)) (Zd ?_)
have e2:(L.take (i+p.length)).drop i=(L.drop i).take p.length:=by rw [L4];congr 1;omega
rw [e2]
exact kW (by omega)
exact Zd (Zth (by omega)).symm}
def KE (L p:Q3 Q4) (i:Nat):Int:=if Lib.index (L.drop i) p<0 then -1 else (i:Int)+Lib.index (L.drop i) p
theorem WK (L p:Q3 Q4) (i:Nat) (hp:p≠[]) (hpl:p.length<=1000) (h:i<=L.length) (hL:L.length<=1000000):LO (bs L) (bs p) (i:Int)=some (KE L p i):=by{
have z:(bs L).size=L.length:=rfl
have zp:(bs p).size=p.length:=rfl
have hd:(L.drop i).length=L.length-i:=Yx
have hp1:1<=p.length:=List.length_pos_iff.2 hp
refine ZI ?_
unfold LO
refine ZF (fun x=>∃ n:Nat,x=((i+n:Nat):Int)/\n<=L.length-i/\Lib.NoOcc (L.drop i) p n) (fun x=>L.length+1-x.toNat) ⟨0,by simp,by omega,Lib.NoOcc.zero _ _⟩ (by omega) ?_
rintro x rec ⟨n,rfl,hn,hno⟩ ih
have e:w64 (((i+n:Nat):Int)+((bs p).size:Int))=((i+n+p.length:Nat):Int):=by rw [ZK];omega
rw [e]
refine Zc (fun hle=>?_) fun hgt=>?_
refine Za (GD L (i+n) (i+n+p.length) (by omega) (by omega)) ?_
have e2:(L.take (i+n+p.length)).drop (i+n)=((L.drop i).drop n).take p.length:=by rw [L4,JU];congr 1;omega
rw [e2,kW (by rw [Yx];omega)]
cases ho:p.isPrefixOf ((L.drop i).drop n) with
| true=>
  refine Zi (fun _=>Zd ?_) nofun
  have hi:Lib.index (L.drop i) p=(n:Int):=Lib.index_first (by omega) ho hno
  unfold KE
  rw [hi,if_neg (by omega)]
  omega
| false=>
  refine Zi nofun fun _=>?_
  rw [ZK]
  refine ih _ ⟨n+1,by omega,by omega,fun j hj=>?_⟩ (by omega)
  by_cases hjn:j<n
  exact hno j hjn
  obtain rfl:j=n:=by omega
  exact ho
refine Zd ?_
unfold KE
rw [Lib.index_past hp hno (by omega),if_pos (by decide)]}
theorem ZyQ (L:Q3 Q4) (c:Q4) (i:Nat) (h:i<=L.length) (hL:L.length<=1000000):KC (bs L) (i:Int) (c.toNat:Int)=some ((i:Int)+(BL c (L.drop i):Int)):=by{
have z:(bs L).size=L.length:=rfl
refine ZI ?_
unfold KC
refine ZF (fun x=>∃ n:Nat,x=(n:Int)/\n<=L.length/\n+BL c (L.drop n)=i+BL c (L.drop i)) (fun x=>L.length-x.toNat) ⟨i,rfl,h,rfl⟩ (by omega) ?_
rintro x rec ⟨n,rfl,hn,hr⟩ ih
refine Zt (fun q=>((n<L.length/\L[n]? = some c)->Tot (q true) (fun r=>r=(i:Int)+(BL c (L.drop i):Int)))/\(BL c (L.drop n)=0->Tot (q false) (fun r=>r=(i:Int)+(BL c (L.drop i):Int)))) ⟨fun ⟨h1,h2⟩=>?_,fun h0=>?_⟩ fun k hk=>?_
refine Zi (fun _=>?_) nofun
rw [ZK]
have hd:L.drop n=L[n]::L.drop (n+1):=Yt h1
have hc:L[n]=c:=by rw [Yc h1] at h2;exact DB h2
rw [hd,T6 hc] at hr
exact ih _ ⟨n+1,by omega,by omega,by omega⟩ (by omega)
exact Zi nofun fun _=>Zd (by omega)
refine Zc (fun hlt=>?_) fun hge=>?_
have h1:n<L.length:=by omega
have hc:L[n]? = some L[n]:=Yc h1
have hd:L.drop n=L[n]::L.drop (n+1):=Yt h1
refine Za (BC hc) ?_
by_cases he:L[n]=c
rw [Yh (u8c.2 he)]
exact hk.1 ⟨h1,by rw [hc,he]⟩
rw [Yf (fun hh=>he (u8c.1 hh))]
exact hk.2 (by rw [hd,PO he])
refine hk.2 ?_
rw [YI (by omega)]
rfl}
theorem ZpK {s:Q3 Q4} {n:Int} {r:Q3 Q4} (h:BW s=some (n,r)):r.length<=s.length:=by{
unfold BW at h
split at h
have e:=(Prod.mk.inj (DB h)).2
rw [<- e]
unfold Lib.cut
split
simp only [Yx];omega
simp
cases h}
def spU (c:Q4):Q4:=if c=95 then 32 else c
def BI (out:Q3 Q4) (c:Q4):Q3 Q4:=if c=32/\(out = []\/out.getLast? = some 32) then out else out ++ [c]
def EE (out:Q3 Q4):Q3 Q4:=if out.getLast? = some 32 then out.dropLast else out
def blL (s:Q3 Q4):Q3 Q4:=EE ((s.map spU).foldl BI [])
theorem Zxq (l:Q3 Q4):strOfNums (l.map fun b=>(b.toNat:Int))=bs l:=by{
unfold strOfNums bs
congr 2
rw [JW]
conv=>rhs;rw [<- RR l]
refine E4 fun b _=>?_
show UInt8.ofNat ((b.toNat:Int)).toNat=b
rw [DJ,UInt8.ofNat_toNat]}
theorem dC (l:Q3 Q4):∀ out,(l.foldl BI out).length<=out.length+l.length:=by{
induction l with
| nil=>intro out;exact Yn _
| cons c l ih=>
  intro out
  refine YX (ih (BI out c)) ?_
  unfold BI
  split
  simp
  simp;omega}
theorem kX {l:Q3 Q4} {n:Nat} {c:Q4} (h:l[n]? = some c) (f:Q4->Q4):((l.take (n+1)).map f).foldl BI []=BI (((l.take n).map f).foldl BI []) (f c):=by
 obtain ⟨hl,he⟩:=Yd.1 h
 rw [RB hl,he,YR,G3]
 rfl
theorem dD (out:Q3 Q4) (h:0<out.length):∃ e,out.getLast? = some e/\(out.map fun b=>(b.toNat:Int))[((out.length:Int)-1).toNat]? = some (e.toNat:Int)/\atS (bs out) ((out.length:Int)-1)=some (e.toNat:Int):=by{
rcases ME out with rfl | ⟨init,e,hc⟩
simp at h
obtain rfl:out=init ++ [e]:=by rw [hc];simp
refine ⟨e,by simp,?_,?_⟩
rw [show (((init ++ [e]).length:Int)-1).toNat=init.length by simp]
simp
have e2:((init ++ [e]).length:Int)-1=((init.length:Nat):Int):=by simp
rw [e2]
exact BC (by simp)}
theorem e32 {e:Q4}:((e.toNat:Int)=32)↔e=32:=⟨fun h=>GM.1 (show e.toNat=32 by omega),fun h=>by rw [h];rfl⟩
theorem Zrx (l:Q3 Q4) (h:l.length<=1000000):strings_TrimSuffix (bs l) ⟨#[32]⟩=some (bs (EE l)):=by{
refine ZI ?_
unfold strings_TrimSuffix WB WA
have z:(bs l).size=l.length:=rfl
have z1:(⟨#[32]⟩:Q1).size=1:=rfl
refine ZS (Q:=fun r=>r=bs (EE l)) ?_ fun r hr=>Zd hr
refine ZS (Q:=fun b=>b=decide (l.getLast? = some 32)) ?_ fun b hb=>?_
refine ZX (Zc (fun hl=>?_) fun hl=>Zd ?_)
rcases ME l with rfl | ⟨init,e,hc⟩
exact absurd hl (by decide)
obtain rfl:l=init ++ [e]:=by rw [hc];simp
rw [ZK]
have e1:((bs (init ++ [e])).size:Int)-((⟨#[32]⟩:Q1).size:Int)=((init.length:Nat):Int):=by rw [z,z1];simp
rw [e1]
refine Za (F4 (init ++ [e]) init.length (by simp)) (Zd ?_)
rw [List.drop_left,Y7]
by_cases he:e=32
subst he;rfl
rw [Yf (fun h=>he (by have:=JH (b:=[32]) h;simpa using this)),Yf (fun h=>he (DB h))]
have:l = []:=Yl (by omega)
subst this
rfl
subst hb
unfold EE
refine Zc (fun hl=>?_) fun hl=>?_
rw [if_pos hl]
rcases ME l with rfl | ⟨init,e,hc⟩
cases hl
obtain rfl:l=init ++ [e]:=by rw [hc];simp
rw [ZK]
have e1:((bs (init ++ [e])).size:Int)-((⟨#[32]⟩:Q1).size:Int)=((init.length:Nat):Int):=by rw [z,z1];simp
rw [e1]
refine Za (GD (init ++ [e]) 0 init.length (by omega) (by simp)) (Zd ?_)
simp
rw [if_neg hl]
exact Zd rfl}
theorem ZsZ (t:Q3 Q4) (h:t.length<=600000):ST (bs t)=some (bs (EE (t.foldl BI []))):=by{
refine ZI ?_
unfold ST
have z:(bs t).size=t.length:=rfl
refine Za (v:=()) (by unfold VX;rw [if_pos ⟨by omega,by omega,by omega⟩]) ?_
refine ZF (fun x=>∃ n:Nat,x.1=(n:Int)/\n<=t.length/\x.2=((((t.take n).map id).foldl BI []).map fun b=>(b.toNat:Int))) (fun x=>t.length-x.1.toNat) ⟨0,rfl,Nat.zero_le _,rfl⟩ (by dsimp only;omega) ?_
rintro ⟨i,l⟩ rec ⟨n,hi,hn,hl⟩ ih
dsimp only at hi hl ih ⊢
subst hi hl
have hlen:=dC ((t.take n).map id) []
simp only [DK,Yv,YE] at hlen
generalize hout:((t.take n).map id).foldl BI []=out at hlen ⊢
refine Zc (fun hlt=>?_) fun hge=>?_
·obtain ⟨c,hc⟩:∃ c,t[n]? = some c:=⟨_,Yc (by omega)⟩
 have hstep:=kX hc id
 rw [hout] at hstep
 have next:Tot (rec (w64 ((n:Int)+1),(BI out c).map fun b=>(b.toNat:Int))) (fun r=>r=bs (EE (t.foldl BI []))):=by
  rw [ZK]
  exact ih _ ⟨n+1,by simp,by omega,by dsimp only;rw [hstep];rfl⟩ (by dsimp only;omega)
 refine Zt (fun q=>Tot (q ((BI out c).map fun b=>(b.toNat:Int))) (fun r=>r=bs (EE (t.foldl BI [])))) next fun k19 h19=>?_
 refine Zt (fun q=>(¬ (c=32/\(out = []\/out.getLast? = some 32))->Tot (q true) (fun r=>r=bs (EE (t.foldl BI []))))/\((c=32/\(out = []\/out.getLast? = some 32))->Tot (q false) (fun r=>r=bs (EE (t.foldl BI []))))) ⟨fun hx=>?_,fun hx=>?_⟩ fun k20 h20=>?_
 refine Zi (fun _=>?_) nofun
 refine Za (BC hc) ?_
 refine iW 700000 (by simp only [YC,Yv];omega) (by omega) (by omega) ?_
 have e:(out.map fun b=>(b.toNat:Int)) ++ [(c.toNat:Int)]=(BI out c).map fun b=>(b.toNat:Int):=by
  unfold BI
  rw [if_neg hx]
  simp
 rw [e]
 exact h19
 refine Zi nofun fun _=>?_
 have e:BI out c=out:=by unfold BI;rw [if_pos hx]
 rw [e] at h19
 exact h19
 refine Za (BC hc) (CM (fun hne=>h20.1 fun h=>hne (e32.2 h.1)) fun h32=>?_)
 have hc32:=e32.1 h32
 rw [Yv]
 refine Zc (fun hpos=>?_) fun hz=>h20.2 ⟨hc32,.inl (Yl (by omega))⟩
 obtain ⟨e,g1,g2,_⟩:=dD out (by omega)
 rw [ZK]
 refine Za (v:=(e.toNat:Int)) (by unfold atI;rw [if_pos (by omega)];exact g2) ?_
 by_cases he:e=32
 rw [Yh (e32.2 he)]
 exact h20.2 ⟨hc32,.inr (by rw [g1,he])⟩
 rw [Yf (fun h=>he (e32.1 h))]
 refine h20.1 fun h=>?_
 rcases h.2 with h | h
 subst h;simp at hpos
 rw [g1] at h;exact he (DB h)
have hne:n=t.length:=by omega
subst hne
rw [Z4,RR] at hout
rw [Zxq]
refine Za (Zrx out (by omega)) (Zd ?_)
rw [hout]}
theorem kY {l:Q3 Q4} (h:∀ c ∈ l,c≠95):l.map spU=l:=by
 conv=>rhs;rw [<- RR l]
 exact E4 fun c hc=>by unfold spU;rw [if_neg (h c hc)];rfl
theorem kZ:∀ (n:Nat) (s:Q3 Q4),s.length<=n->Lib.replaceK [95] [32] (Lib.count s [95]) s=s.map spU
 | n,s,hn=>by
   rcases Lib.index_spec s [95] with ⟨h1,h2⟩ | ⟨i,h1,h2,h3,h4⟩
   ·rw [Lib.count_miss h1]
    have hno:∀ c ∈ s,c≠95:=fun c hc e=>by
     subst e
     obtain ⟨j,hj⟩:=YA hc
     obtain ⟨hl,he⟩:=Yd.1 hj
     have:=h2 j (by omega)
     unfold Lib.occAt at this
     rw [Yt hl,he] at this
     simp at this
    rw [kY hno]
    rfl
   ·have hr:=Lib.index_room s [95] (by omega)
    simp only [YC] at hr
    rw [Lib.count_hit (by decide) h1,Nat.add_comm,Lib.replaceK_hit _ _ _ _ _ h1]
    have hi:i<s.length:=by omega
    match n,hn with
    | n+1,hn=>
      rw [kZ n (s.drop (i+([95]:Q3 Q4).length)) (by rw [Yx,YC];omega)]
      have h95:s[i]=95:=by
       have h5:([95]:Q3 Q4).isPrefixOf (s[i]::s.drop (i+1))=true:=by rw [<- Yt hi];exact h3
       have h6:(95 == s[i]&&List.isPrefixOf [] (s.drop (i+1)))=true:=h5
       rw [YH] at h6
       exact (DC.1 h6.1).symm
      have hno:∀ c ∈ s.take i,c≠95:=fun c hc e=>by
       subst e
       obtain ⟨j,hj⟩:=YA hc
       rw [FF] at hj
       split at hj
       ·rename_i hji
        obtain ⟨hl,he⟩:=Yd.1 hj
        have:=h4 j hji
        unfold Lib.occAt at this
        rw [Yt hl,he] at this
        simp at this
       ·cases hj
      have hs:s=s.take i++95::s.drop (i+1):=by
       rw [<- h95,<- Yt hi,YQ]
      conv=>rhs;rw [hs,YR,YO,kY hno]
      rw [YM]
      rfl
    | 0,hn=>omega
theorem ZrY (s:Q3 Q4) (h:s.length<=300000):SS (bs s) ⟨#[95]⟩ ⟨#[32]⟩=some (bs (s.map spU)):=by{
have z:(bs s).size=s.length:=rfl
have hc:Lib.countB (bs s) ⟨#[95]⟩<=(bs s).size:=by
 have h:=Lib.countB_mul_le ⟨#[95]⟩ (by decide) (bs s).size (bs s) (Yn _)
 have e:(⟨#[95]⟩:Q1).size=1:=rfl
 rw [e] at h
 omega
have e1:(⟨#[32]⟩:Q1).size=1:=rfl
have e2:(⟨#[95]⟩:Q1).size=1:=rfl
unfold SS
rw [if_pos ⟨⟨by omega,by omega⟩,by rw [e1];omega⟩]
show some (bs (Lib.replaceK [95] [32] (Lib.count s [95]) s))=_
rw [kZ s.length s (Yn _)]}
theorem WL {c d:Q4}:bs [c]=bs [d]↔c=d:=⟨fun h=>by simpa using JH h,fun h=>by rw [h]⟩
theorem Zt6 (s:Q3 Q4) (h:s.length<=300000):T1 (bs s)=some (bs (blL s)):=by{
refine ZI ?_
unfold T1
have z:(bs s).size=s.length:=rfl
refine ZF (fun x=>∃ n:Nat,x.2=(n:Int)/\n<=s.length/\x.1=bs (((s.take n).map spU).foldl BI [])) (fun x=>s.length-x.2.toNat) ⟨0,rfl,Nat.zero_le _,rfl⟩ (by dsimp only;omega) ?_
rintro ⟨o,i⟩ rec ⟨n,hi,hn,ho⟩ ih
dsimp only at hi ho ih ⊢
subst hi ho
have hlen:=dC ((s.take n).map spU) []
simp only [DK,Yv,YE] at hlen
generalize hout:((s.take n).map spU).foldl BI []=out at hlen ⊢
have zo:(bs out).size=out.length:=rfl
refine Zc (fun hlt=>?_) fun hge=>?_
obtain ⟨c,hc⟩:∃ c,s[n]? = some c:=⟨_,Yc (by omega)⟩
have hstep:=kX hc spU
rw [hout] at hstep
refine Zt (fun q=>Tot (q (bs (BI out (spU c)))) (fun r=>r=bs (blL s))) ?_ fun k30 h30=>?_
rw [ZK]
exact ih _ ⟨n+1,by simp,by omega,by dsimp only;rw [hstep]⟩ (by dsimp only;omega)
have e1:w64 ((n:Int)+1)=((n+1:Nat):Int):=by rw [ZK];rfl
rw [e1]
have e2:(s.take (n+1)).drop n = [c]:=by
 obtain ⟨hl,he⟩:=Yd.1 hc
 rw [RB hl,XY (by rw [YE];omega),YI (by rw [YE];omega),he]
 rfl
refine Za (GD s n (n+1) (by omega) (by omega)) ?_
rw [e2]
refine Zt (fun q=>Tot (q (bs [spU c])) (fun r=>r=bs (blL s))) ?_ fun k31 h31=>?_
generalize spU c=d at h30 ⊢
refine Zt (fun q=>((d=32/\(out = []\/out.getLast? = some 32))->Tot (q true) (fun r=>r=bs (blL s)))/\(¬ (d=32/\(out = []\/out.getLast? = some 32))->Tot (q false) (fun r=>r=bs (blL s)))) ⟨fun hx=>?_,fun hx=>?_⟩ fun k32 h32=>?_
refine Zi (fun _=>?_) nofun
have e:BI out d=out:=by unfold BI;rw [if_pos hx]
rw [e] at h30
exact h30
refine Zi nofun fun _=>?_
have e:BI out d=out ++ [d]:=by unfold BI;rw [if_neg hx]
rw [e,<- cZ] at h30
refine vV (by have:(bs [d]).size=1:=rfl;omega) fun _=>h30
refine Zc (fun hd=>?_) fun hd=>h32.2 fun h=>hd (WL.2 h.1)
have hd32:=WL.1 hd
refine Zc (fun he=>h32.1 ⟨hd32,.inl (JH (b:=[]) he)⟩) fun hne=>?_
have hpos:0<out.length:=Nat.pos_of_ne_zero fun h0=>hne (by rw [Yl h0];rfl)
obtain ⟨e,g1,_,g3⟩:=dD out hpos
rw [zo,ZK]
refine Za g3 ?_
by_cases he:e=32
rw [Yh (e32.2 he)]
exact h32.1 ⟨hd32,.inr (by rw [g1,he])⟩
rw [Yf (fun h=>he (e32.1 h))]
refine h32.2 fun h=>?_
rcases h.2 with h | h
exact hne (by rw [h];rfl)
rw [g1] at h;exact he (DB h)
refine Zc (fun h95=>?_) fun h95=>?_
have:spU c=32:=by unfold spU;rw [if_pos (WL.1 h95)]
rw [this] at h31
exact h31
have:spU c=c:=by unfold spU;rw [if_neg (fun h=>h95 (WL.2 h))]
rw [this] at h31
exact h31
have hne:n=s.length:=by omega
subst hne
rw [Z4] at hout
have hbl:blL s=EE out:=by unfold blL;rw [hout]
rw [hbl]
refine Zt (fun q=>(out.getLast? = some 32->Tot (q true) (fun r=>r=bs (EE out)))/\(¬ out.getLast? = some 32->Tot (q false) (fun r=>r=bs (EE out)))) ⟨fun hx=>?_,fun hx=>?_⟩ fun k33 h33=>?_
refine ZX (Zi (fun _=>?_) nofun)
rcases ME out with he | ⟨init,e,hcc⟩
rw [he] at hx;cases hx
have hcc:out=init ++ [e]:=by rw [hcc];simp
rw [hcc] at hx hlen ⊢
simp only [Yb,YC] at hlen
rw [ZK (by have:(bs (init ++ [e])).size=init.length+1:=(by show (init ++ [e]).length=_;simp);omega) (by have:(bs (init ++ [e])).size=init.length+1:=(by show (init ++ [e]).length=_;simp);omega)]
have e1:((bs (init ++ [e])).size:Int)-1=((init.length:Nat):Int):=by show ((init ++ [e]).length:Int)-1=_;simp
rw [e1]
refine Za (GD (init ++ [e]) 0 init.length (by omega) (by simp)) (Zd ?_)
unfold EE
rw [if_pos hx]
simp
refine ZX (Zi nofun fun _=>Zd ?_)
unfold EE
rw [if_neg hx]
refine Zc (fun hpos=>?_) fun hz=>?_
obtain ⟨e,g1,_,g3⟩:=dD out (by omega)
rw [zo,ZK]
refine Za g3 ?_
by_cases he:e=32
rw [Yh (e32.2 he)]
exact h33.1 (by rw [g1,he])
rw [Yf (fun h=>he (e32.1 h))]
exact h33.2 fun h=>by rw [g1] at h;exact he (DB h)
have:out = []:=Yl (by omega)
exact h33.2 (by rw [this];intro h;cases h)}
def sgl:Q3 Q4->Bool | []=>true | a::l=>!(decide (a=32)&&decide (l.head? = some 32))&&sgl l
def filt:Bool->Q3 Q4->Q3 Q4 | _,[]=>[] | p,c::l=>if c=32/\(p=true\/l.head? = some 47) then filt false l else c::filt (decide (c=47)) l
theorem PT (b:Bool) (c:Q4) (l:Q3 Q4):filt b (c::l)=if c=32/\(b=true\/l.head? = some 47) then filt false l else c::filt (decide (c=47)) l:=rfl
def tlB (p:Q3 Q4):Q3 Q4:=p.dropWhile (fun c=>decide (c=32))
def trB (p:Q3 Q4):Q3 Q4:=(p.reverse.dropWhile (fun c=>decide (c=32))).reverse
def T7:Bool->Q3 (Q3 Q4)->Q3 Q4 | _,[]=>[] | b,[p]=>if b=true then tlB p else p | b,p::q::ps=>trB (if b=true then tlB p else p)++47::T7 true (q::ps)
theorem LS {c:Q4} {l:Q3 Q4} (h:sgl (c::l)=true):sgl l=true:=by
 unfold sgl at h
 rw [YH] at h
 exact h.2
theorem dE {c:Q4} {l:Q3 Q4} (h:sgl (c::l)=true) (hc:c=32):l.head?≠some 32:=fun e=>by
 unfold sgl at h
 rw [Yh hc,Yh e] at h
 cases h
theorem dF:∀ {a b:Q3 Q4},sgl (a++b)=true->sgl b=true
 | [],b,h=>h
 | c::a,b,h=>dF (a:=a) (LS h)
theorem l0 {l:Q3 Q4} (h:sgl (32::l)=true):tlB (32::l)=l:=by{
unfold tlB
rw [IA,if_pos (by decide)]
cases l with
| nil=>rfl
| cons d l=>
  have:=dE h rfl
  rw [IA,if_neg]
  intro e
  exact this (by rw [GK e];rfl)}
theorem dG {c:Q4} {l:Q3 Q4} (h:¬ c=32):tlB (c::l)=c::l:=by
 unfold tlB
 rw [IA,if_neg (by simpa using h)]
theorem Zxh (c:Q4):trB [c]=if c=32 then [] else [c]:=by{
unfold trB
rw [List.reverse_singleton,IA]
by_cases h:c=32
rw [if_pos (by simpa using h),if_pos h];rfl
rw [if_neg (by simpa using h),if_neg h];rfl}
theorem ZlQ (q:Q4->Bool) (l:Q3 Q4) (c:Q4):(l ++ [c]).dropWhile q=if l.dropWhile q = [] then (if q c=true then [] else [c]) else l.dropWhile q ++ [c]:=by{
induction l with
| nil=>
  show [c].dropWhile q=if ([]:Q3 Q4) = [] then (if q c=true then [] else [c]) else [] ++ [c]
  rw [if_pos rfl,IA]
  rfl
| cons d l ih=>
  show (d::(l ++ [c])).dropWhile q=if (d::l).dropWhile q = [] then (if q c=true then [] else [c]) else (d::l).dropWhile q ++ [c]
  rw [IA,IA]
  cases q d with
  | true=>exact ih
  | false=>simp}
theorem l5 (c:Q4) (l:Q3 Q4):trB (c::l)=if trB l = [] then (if c=32 then [] else [c]) else c::trB l:=by{
unfold trB
rw [RL,ZlQ]
by_cases h:l.reverse.dropWhile (fun c=>decide (c=32)) = []
rw [if_pos h,h]
simp only [UN,if_true,YT]
split<;>rfl
rw [if_neg h,if_neg (fun e=>h (List.reverse_eq_nil_iff.1 e))]
simp}
theorem ZyH {d:Q4} {l:Q3 Q4} (h:¬ d=32):trB (d::l)≠[]:=by{
rw [l5]
by_cases ht:trB l = []
rw [if_pos ht,if_neg h];simp
rw [if_neg ht];simp}
theorem l7:∀ (p:Q3 Q4) (b:Bool),(∀ c ∈ p,c≠47)->sgl p=true->filt b p=if b=true then tlB p else p
 | [],b,_,_=>by cases b<;>rfl
 | c::l,b,h,hs=>by
   have hl:∀ d ∈ l,d≠47:=fun d hd=>h d (Yg _ hd)
   have h47:¬ c=47:=h c Yi
   have hh:l.head?≠some 47:=fun e=>by
    cases l with
    | nil=>cases e
    | cons d l=>exact hl d Yi (by injection e)
   have ih:=l7 l false hl (LS hs)
   have ih:filt false l=l:=ih
   rw [PT]
   by_cases hc:c=32/\(b=true\/l.head? = some 47)
   rw [if_pos hc,ih]
   have hb:b=true:=hc.2.resolve_right hh
   obtain ⟨rfl,_⟩:=hc
   rw [if_pos hb,l0 hs]
   rw [if_neg hc,Yf h47,ih]
   cases b with
   | false=>rfl
   | true=>
     have:¬ c=32:=fun e=>hc ⟨e,.inl rfl⟩
     rw [if_pos rfl,dG this]
theorem l9:∀ (p:Q3 Q4) (b:Bool) (w:Q3 Q4),(∀ c ∈ p,c≠47)->sgl (p++47::w)=true->filt b (p++47::w)=trB (if b=true then tlB p else p)++47::filt true w
 | [],b,w,_,_=>by
   show filt b (47::w)=_
   rw [PT,if_neg (fun h=>by cases h.1),Yh rfl]
   cases b<;>rfl
 | c::l,b,w,h,hs=>by
   have hl:∀ d ∈ l,d≠47:=fun d hd=>h d (Yg _ hd)
   have h47:¬ c=47:=h c Yi
   have hs:sgl (c::(l++47::w))=true:=hs
   have ih:=l9 l false w hl (LS hs)
   have ih:filt false (l++47::w)=trB l++47::filt true w:=ih
   show filt b (c::(l++47::w))=_
   rw [PT]
   have hsl:c=32->sgl (c::l)=true:=fun hc=>by
    subst hc
    have h2:=dE hs rfl
    unfold sgl
    cases l with
    | nil=>rfl
    | cons d l=>
      have hd:¬ d=32:=fun e=>h2 (by rw [e];rfl)
      have:∀ (l:Q3 Q4) (w:Q3 Q4),sgl (l++47::w)=true->sgl l=true:=by
       intro l
       induction l with
       | nil=>intro w _;rfl
       | cons e l ih=>
         intro w hw
         have t:=ih w (LS hw)
         unfold sgl
         rw [t,MM]
         cases l with
         | nil=>simp
         | cons f l=>
           have hw:sgl (e::f::(l++47::w))=true:=hw
           unfold sgl at hw
           rw [YH] at hw
           exact hw.1
      rw [this (d::l) w (LS hs),MM,Yf (show ¬ (d::l).head? = some 32 from fun e=>hd (by injection e)),Bool.and_false]
      rfl
   by_cases hc:c=32/\(b=true\/(l++47::w).head? = some 47)
   ·rw [if_pos hc,ih]
    obtain ⟨rfl,hc2⟩:=hc
    cases b with
    | true=>rw [if_pos rfl,l0 (hsl rfl)]
    | false=>
      have h2:(l++47::w).head? = some 47:=hc2.resolve_left (by decide)
      cases l with
      | nil=>
        show trB []++47::filt true w=trB [32]++_
        rw [Zxh,if_pos rfl]
        rfl
      | cons d l=>exact absurd (show d=47 by injection h2) (hl d Yi)
   ·rw [if_neg hc,Yf h47,ih]
    have hk:(if b=true then tlB (c::l) else c::l)=c::l:=by
     cases b with
     | false=>rfl
     | true=>rw [if_pos rfl,dG (fun e=>hc ⟨e,.inl rfl⟩)]
    rw [hk,l5]
    by_cases ht:trB l = []
    ·rw [if_pos ht,ht]
     by_cases hc32:c=32
     ·exfalso
      subst hc32
      cases l with
      | nil=>exact hc ⟨rfl,.inr rfl⟩
      | cons d l=>
        have hd:¬ d=32:=fun e=>dE (hsl rfl) rfl (by rw [e];rfl)
        exact ZyH hd ht
     ·rw [if_neg hc32]
      rfl
    ·rw [if_neg ht]
     rfl
theorem lB:∀ (p a w:Q3 Q4),(∀ c ∈ p,c≠47)->C7 a (p++47::w)=(a++p)::C7 [] w
 | [],a,w,_=>by
   show C7 a (47::w)=_
   rw [C7,if_pos (by decide),YB]
 | c::p,a,w,h=>by
   have h0:¬ c.toNat=47:=fun e=>h c Yi (GM.1 e)
   show C7 a (c::(p++47::w))=_
   rw [C7,if_neg h0,lB p (a ++ [c]) w fun d hd=>h d (Yg _ hd),YM]
   rfl
theorem lF:∀ (p a:Q3 Q4),(∀ c ∈ p,c≠47)->C7 a p = [a++p]
 | [],a,_=>by rw [C7,YB]
 | c::p,a,h=>by
   have h0:¬ c.toNat=47:=fun e=>h c Yi (GM.1 e)
   rw [C7,if_neg h0,lF p (a ++ [c]) fun d hd=>h d (Yg _ hd),YM]
   rfl
theorem Zsy (w:Q3 Q4):∀ a,∃ q ps,C7 a w=q::ps:=by{
induction w with
| nil=>intro a;exact ⟨a,[],by rw [C7]⟩
| cons c w ih=>
  intro a
  rw [C7]
  split
  exact ⟨a,_,rfl⟩
  exact ih _}
theorem Zzx (w:Q3 Q4):(∀ c ∈ w,c≠47)\/∃ p r,w=p++47::r/\∀ c ∈ p,c≠47:=by{
induction w with
| nil=>exact .inl fun c h=>by cases h
| cons c w ih=>
  by_cases hc:c=47
  exact .inr ⟨[],w,by rw [hc];rfl,fun c h=>by cases h⟩
  rcases ih with h | ⟨p,r,rfl,h⟩
  refine .inl fun d hd=>?_
  rcases Ys.1 hd with rfl | hd
  exact hc
  exact h d hd
  refine .inr ⟨c::p,r,rfl,fun d hd=>?_⟩
  rcases Ys.1 hd with rfl | hd
  exact hc
  exact h d hd}
theorem Zsz:∀ (n:Nat) (w:Q3 Q4) (b:Bool),w.length<=n->sgl w=true->T7 b (C7 [] w)=filt b w:=by{
intro n
induction n with
| zero=>
  intro w b hn hs
  have:w = []:=Yl (by omega)
  subst this
  cases b<;>rfl
| succ n ih=>
  intro w b hn hs
  rcases Zzx w with h | ⟨p,r,rfl,h⟩
  rw [lF w [] h,l7 w b h hs]
  rfl
  rw [lB p [] r h,l9 p b r h hs]
  obtain ⟨q,ps,hq⟩:=Zsy r []
  have hr:=ih r true (by simp at hn;omega) (by have:=dF (a:=p) hs;exact LS this)
  rw [hq] at hr ⊢
  show trB (if b=true then tlB ([]++p) else []++p)++47::T7 true (q::ps)=_
  rw [hr]
  rfl}
theorem ZxT (p:Q3 Q4) (h:p.length<=1000000):SV (bs p) ⟨#[32]⟩=some (bs (tlB p)):=by{
have core:SU (bs p) 32=some (bs (tlB p)):=by
 refine ZI ?_
 unfold SU
 refine ZF (fun x=>∃ q,x=bs q/\q.length<=p.length/\tlB q=tlB p) (fun x=>x.size) ⟨p,rfl,Yn _,rfl⟩ (by show p.length<=_;omega) ?_
 rintro x rec ⟨q,rfl,hq,ht⟩ ih
 cases q with
 | nil=>
   refine ZX (Zc (fun h=>absurd h (by decide)) fun _=>?_)
   exact Zi nofun fun _=>Zd (by rw [<- ht];rfl)
 | cons c q=>
   have z:(bs (c::q)).size=q.length+1:=rfl
   simp only [Yr] at hq
   refine Zt (fun k=>(c=32->Tot (k true) (fun r=>r=bs (tlB p)))/\(¬ c=32->Tot (k false) (fun r=>r=bs (tlB p)))) ⟨fun hc=>?_,fun hc=>?_⟩ fun k hk=>?_
   refine Zi (fun _=>?_) nofun
   refine Za (F4 (c::q) 1 (by simp)) (ih _ ⟨q,rfl,by omega,?_⟩ (by show q.length<q.length+1;omega))
   rw [<- ht]
   unfold tlB
   rw [IA,if_pos (by simpa using hc)]
   refine Zi nofun fun _=>Zd ?_
   rw [<- ht,dG hc]
   refine Zc (fun _=>?_) fun h=>absurd (by omega) h
   refine Za (BC (L:=c::q) (n:=0) rfl) ?_
   by_cases hc:c=32
   rw [Yh (e32.2 hc)]
   exact hk.1 hc
   rw [Yf (fun h=>hc (e32.1 h))]
   exact hk.2 hc
refine ZI ?_
unfold SV
refine Zt (fun k=>((p = [])->Tot (k true) (fun r=>r=bs (tlB p)))/\Tot (k false) (fun r=>r=bs (tlB p))) ⟨fun hp=>?_,?_⟩ fun k hk=>?_
refine Zi (fun _=>Zd ?_) nofun
rw [hp];rfl
refine Zi nofun fun _=>ZX (Zc (fun _=>?_) fun h=>absurd rfl h)
refine Za (v:=32) rfl (Zi (fun _=>?_) nofun)
exact Za (v:=32) rfl (Za core (Zd rfl))
refine Zc (fun h=>hk.1 (JH (b:=[]) h)) fun _=>?_
rw [Yf (by decide)]
exact hk.2}
theorem lG (q:Q3 Q4) (c:Q4):trB (q ++ [c])=if c=32 then trB q else q ++ [c]:=by{
unfold trB
rw [O9]
show ((c::q.reverse).dropWhile _).reverse=_
rw [IA]
by_cases hc:c=32
rw [if_pos (by simpa using hc),if_pos hc]
rw [if_neg (by simpa using hc),if_neg hc]
simp}
theorem ZvY (p:Q3 Q4) (h:p.length<=1000000):SY (bs p) ⟨#[32]⟩=some (bs (trB p)):=by{
have core:SX (bs p) 32=some (bs (trB p)):=by
 refine ZI ?_
 unfold SX
 refine ZF (fun x=>∃ q,x=bs q/\q.length<=p.length/\trB q=trB p) (fun x=>x.size) ⟨p,rfl,Yn _,rfl⟩ (by show p.length<=_;omega) ?_
 rintro x rec ⟨q,rfl,hq,ht⟩ ih
 rcases ME q with rfl | ⟨init,c,hc0⟩
 refine ZX (Zc (fun h=>absurd h (by decide)) fun _=>?_)
 exact Zi nofun fun _=>Zd (by rw [<- ht];rfl)
 obtain rfl:q=init ++ [c]:=by rw [hc0];simp
 have z:(bs (init ++ [c])).size=init.length+1:=by show (init ++ [c]).length=_;simp
 simp only [Yb,YC] at hq
 have e1:w64 (((bs (init ++ [c])).size:Int)-1)=((init.length:Nat):Int):=by rw [ZK];omega
 refine Zt (fun k=>(c=32->Tot (k true) (fun r=>r=bs (trB p)))/\(¬ c=32->Tot (k false) (fun r=>r=bs (trB p)))) ⟨fun hc=>?_,fun hc=>?_⟩ fun k hk=>?_
 refine Zi (fun _=>?_) nofun
 rw [e1]
 refine Za (GD (init ++ [c]) 0 init.length (by omega) (by simp)) ?_
 rw [MK,ML]
 refine ih _ ⟨init,rfl,by omega,?_⟩ (by rw [z];show init.length<_;omega)
 rw [<- ht,lG,if_pos hc]
 refine Zi nofun fun _=>Zd ?_
 rw [<- ht,lG,if_neg hc]
 refine Zc (fun _=>?_) fun h=>absurd (by omega) h
 rw [e1]
 refine Za (BC (L:=init ++ [c]) (n:=init.length) (c:=c) (by simp)) ?_
 by_cases hc:c=32
 rw [Yh (e32.2 hc)]
 exact hk.1 hc
 rw [Yf (fun h=>hc (e32.1 h))]
 exact hk.2 hc
refine ZI ?_
unfold SY
refine Zt (fun k=>((p = [])->Tot (k true) (fun r=>r=bs (trB p)))/\Tot (k false) (fun r=>r=bs (trB p))) ⟨fun hp=>?_,?_⟩ fun k hk=>?_
refine Zi (fun _=>Zd ?_) nofun
rw [hp];rfl
refine Zi nofun fun _=>ZX (Zc (fun _=>?_) fun h=>absurd rfl h)
refine Za (v:=32) rfl (Zi (fun _=>?_) nofun)
exact Za (v:=32) rfl (Za core (Zd rfl))
refine Zc (fun h=>hk.1 (JH (b:=[]) h)) fun _=>?_
rw [Yf (by decide)]
exact hk.2}
def CU:Bool->Q3 (Q3 Q4)->Q3 (Q3 Q4) | _,[]=>[] | b,[p]=>[if b=true then tlB p else p] | b,p::q::ps=>trB (if b=true then tlB p else p)::CU true (q::ps)
theorem dH:∀ (b:Bool) (P:Q3 (Q3 Q4)),(CU b P).length=P.length
 | _,[]=>rfl
 | _,[_]=>rfl
 | b,p::q::ps=>by
   show (CU true (q::ps)).length+1=_
   rw [dH true (q::ps)]
   rfl
theorem lH:∀ (P:Q3 (Q3 Q4)) (b:Bool) (i:Nat) (p:Q3 Q4),P[i]? = some p->(CU b P)[i]? = some (if i+1<P.length then trB (if b=true\/0<i then tlB p else p) else (if b=true\/0<i then tlB p else p))
 | [],b,i,p,h=>by simp at h
 | [q],b,0,p,h=>by
   injection h with h
   subst h
   rw [if_neg (by simp)]
   show some (if b=true then tlB q else q)=_
   cases b<;>simp
 | [q],b,i+1,p,h=>by simp at h
 | q::r::ps,b,0,p,h=>by
   injection h with h
   subst h
   rw [if_pos (by simp)]
   show some (trB (if b=true then tlB q else q))=_
   cases b<;>simp
 | q::r::ps,b,i+1,p,h=>by
   have h:(r::ps)[i]? = some p:=h
   show (CU true (r::ps))[i]? = _
   rw [lH (r::ps) true i p h,if_pos (Or.inl rfl:(true=true\/0<i)),if_pos (Or.inr (RQ i):(b=true\/0<i+1))]
   simp only [Yr]
   by_cases hl:i+1<ps.length+1
   rw [if_pos hl,if_pos (by omega)]
   rw [if_neg hl,if_neg (by omega)]
theorem lK:∀ (b:Bool) (P:Q3 (Q3 Q4)),Lib.join (CU b P) [47]=T7 b P
 | _,[]=>rfl
 | b,[p]=>by
   show Lib.join [if b=true then tlB p else p] [47]=if b=true then tlB p else p
   rw [Lib.join_cons]
   simp [Lib.joinTail]
 | b,p::q::ps=>by
   have ih:=lK true (q::ps)
   show Lib.join (trB (if b=true then tlB p else p)::CU true (q::ps)) [47]=trB (if b=true then tlB p else p)++47::T7 true (q::ps)
   rw [<- ih,Lib.join_cons]
   obtain ⟨r,rs,hr⟩:∃ r rs,CU true (q::ps)=r::rs:=by
    cases hm:CU true (q::ps) with
    | nil=>
      have:=dH true (q::ps)
      rw [hm] at this
      cases this
    | cons r rs=>exact ⟨r,rs,rfl⟩
   rw [hr,Lib.join_cons]
   rfl
theorem Zrm (w:Q3 Q4) (h:w.length<=600000) (hs:sgl w=true):SZ (bs w)=some (bs (filt false w)):=by{
have z:(bs w).size=w.length:=rfl
have hc:=jO (bs w)
have hd:(Lib.splitB ⟨#[47]⟩ 0 (Lib.countB (bs w) ⟨#[47]⟩) (bs w)).map (·.data.toList)=C7 [] w:=cO _ (bs w) rfl
have hsz:=W3 ⟨#[47]⟩ (Lib.countB (bs w) ⟨#[47]⟩) (bs w)
have hln:=Lib.splitB_all ⟨#[47]⟩ (by decide) 0 _ (bs w) rfl
refine ZI ?_
unfold SZ strings_Split
rw [if_pos ⟨⟨by omega,by decide⟩,by omega⟩]
generalize Lib.splitB ⟨#[47]⟩ 0 (Lib.countB (bs w) ⟨#[47]⟩) (bs w)=L at hd hsz hln ⊢
generalize hP:C7 [] w=P at hd
have hL:L=P.map bs:=by
 rw [<- hd,JW]
 conv=>lhs;rw [<- RR L]
 exact E4 fun a _=>rfl
have hps:∀ p ∈ P,p.length<=600000:=fun p hp=>by
 rw [<- hd] at hp
 obtain ⟨a,ha,rfl⟩:=Yy.1 hp
 have:=hsz a ha
 show a.size<=_
 omega
have hPn:P.length<=600001/\0<P.length:=by rw [<- hd,Yv];omega
subst hL
have hml:=dH false P
refine Za rfl ?_
refine ZF (fun x=>∃ i:Nat,x.1=(i:Int)/\i<=P.length/\x.2=((CU false P).take i++P.drop i).map bs) (fun x=>P.length-x.1.toNat) ⟨0,rfl,Nat.zero_le _,by simp⟩ (by dsimp only;omega) ?_
rintro ⟨i',l⟩ rec ⟨i,hi,hn,hl⟩ ih
dsimp only at hi hl ih ⊢
subst hi hl
rw [Yv]
refine Zc (fun hlt=>?_) fun hge=>?_
have hlt:i<P.length:=by omega
obtain ⟨p,hp⟩:∃ p,P[i]? = some p:=⟨_,Yc hlt⟩
have hpl:=hps p (Yj hp)
have hg:=lH P false i p hp
have htl:((CU false P).take i).length=i:=by rw [YE,hml];omega
have hdr:P.drop i=p::P.drop (i+1):=by
 obtain ⟨h1,h2⟩:=Yd.1 hp
 rw [Yt h1,h2]
have ati:∀ y:Q3 Q4,atI (((CU false P).take i++y::P.drop (i+1)).map bs) (i:Int)=some (bs y):=fun y=>by
 unfold atI
 rw [if_pos (by omega),DJ,Yw,YP (by omega),htl,E6]
 rfl
have seti:∀ y y2:Q3 Q4,AP (((CU false P).take i++y::P.drop (i+1)).map bs) (i:Int) (bs y2)=((CU false P).take i++y2::P.drop (i+1)).map bs:=fun y y2=>by
 unfold AP
 rw [DJ,YR,YR,YO,YO,MD _ _ (by rw [Yv];omega),Yv,htl,E6]
 rfl
have hlen2:∀ y:Q3 Q4,((((CU false P).take i++y::P.drop (i+1)).map bs).length:Int)=(P.length:Int):=fun y=>by
 rw [Yv,Yb,htl,Yr,Yx];omega
rw [hdr]
refine Zt (fun q=>∀ y:Q3 Q4,(CU false P)[i]? = some y->Tot (q (((CU false P).take i++y::P.drop (i+1)).map bs)) (fun r=>r=bs (filt false w))) (fun y hy=>?_) fun k15 h15=>?_
rw [ZK]
refine ih _ ⟨i+1,by simp,by omega,?_⟩ (by dsimp only;omega)
obtain ⟨h1,h2⟩:=Yd.1 hy
dsimp only
rw [RB h1,h2,YM]
rfl
refine Zt (fun q=>Tot (q (((CU false P).take i++(if 0<i then tlB p else p)::P.drop (i+1)).map bs)) (fun r=>r=bs (filt false w))) ?_ fun k16 h16=>?_
generalize hq:(if 0<i then tlB p else p)=q
have hql:q.length<=600000:=by
 rw [<- hq]
 split
 exact YX (UH _).length_le hpl
 exact hpl
have hg2:(CU false P)[i]? = some (if i+1<P.length then trB q else q):=by
 rw [hg,<- hq]
 simp
rw [hlen2,ZK]
refine Zc (fun h2=>?_) fun h2=>?_
rw [if_pos (by omega)] at hg2
refine Za (ati q) (Za (ZvY q (by omega)) (Za (ati q) ?_))
rw [seti]
exact h15 _ hg2
rw [if_neg (by omega)] at hg2
exact h15 _ hg2
refine Zc (fun h2=>?_) fun h2=>?_
rw [if_pos (by omega)] at h16
refine Za (ati p) (Za (ZxT p (by omega)) (Za (ati p) ?_))
rw [seti]
exact h16
rw [if_neg (by omega)] at h16
exact h16
have hne:i=P.length:=by omega
subst hne
rw [GL,YB,H4 (by rw [hml];exact Yn _)]
have hj:Lib.join ((CU false P).map bs |>.map (·.data.toList)) [47]=filt false w:=by
 rw [JW]
 have:(CU false P).map ((fun a:Q1=>a.data.toList)∘bs)=CU false P:=by
  conv=>rhs;rw [<- RR (CU false P)]
  exact E4 fun a _=>rfl
 rw [this,lK,<- hP,Zsz w.length w false (Yn _) hs]
have hfl:∀ (w:Q3 Q4) (b:Bool),(filt b w).length<=w.length:=by
 intro w
 induction w with
 | nil=>intro b;exact Yn _
 | cons c w ih=>
   intro b
   rw [PT]
   split
   exact Nat.le_succ_of_le (ih false)
   exact Nat.succ_le_succ (ih _)
refine Za (v:=bs (filt false w)) ?_ (Zd rfl)
unfold strings_Join
have e47:(⟨#[47]⟩:Q1).data.toList = [47]:=rfl
rw [e47,hj,if_pos ⟨⟨by rw [Yv,hml];omega,by rw [Yv,hml];omega⟩,by have:=hfl w false;omega⟩]
rfl}
theorem LT (a:Q4) (l:Q3 Q4):sgl (a::l)=(!(decide (a=32)&&decide (l.head? = some 32))&&sgl l):=rfl
theorem lN:∀ (a b:Q3 Q4),sgl (a++b)=true->sgl a=true
 | [],_,_=>rfl
 | [c],b,_=>by rw [LT];simp [sgl]
 | c::d::a,b,h=>by
   have h:sgl (c::d::(a++b))=true:=h
   rw [LT,YH] at h
   rw [LT,YH]
   exact ⟨h.1,lN (d::a) b h.2⟩
theorem lO:∀ (a:Q3 Q4) (c:Q4),sgl a=true->¬ (c=32/\a.getLast? = some 32)->sgl (a ++ [c])=true
 | [],c,_,_=>by show sgl [c]=true;rw [LT];simp [sgl]
 | [d],c,_,h=>by
   show sgl [d,c]=true
   rw [LT,LT]
   have:¬ (d=32/\c=32):=fun e=>h ⟨e.2,by rw [e.1];rfl⟩
   by_cases hd:d=32
   have hc:¬ c=32:=fun e=>this ⟨hd,e⟩
   simp [sgl,hc]
   simp [sgl,hd]
 | d::e::a,c,hs,h=>by
   have ih:=lO (e::a) c (LS hs) (fun k=>h ⟨k.1,by rw [<- k.2];simp [List.getLast?_cons]⟩)
   show sgl (d::(e::a ++ [c]))=true
   rw [LT,ih,MM]
   rw [LT,YH] at hs
   exact hs.1
theorem Zxz (l:Q3 Q4):∀ out,sgl out=true->sgl (l.foldl BI out)=true:=by{
induction l with
| nil=>intro out h;exact h
| cons c l ih=>
  intro out h
  refine ih (BI out c) ?_
  unfold BI
  split
  exact h
  rename_i hc
  exact lO out c h fun k=>hc ⟨k.1,.inr k.2⟩}
theorem ZxA (s:Q3 Q4):sgl (blL s)=true:=by{
have h:=Zxz (s.map spU) [] rfl
unfold blL EE
split
rename_i h2
rcases ME ((s.map spU).foldl BI []) with h3 | ⟨init,e,h3⟩
rw [h3];rfl
rw [h3] at h ⊢
have h:sgl (init ++ [e])=true:=by simpa using h
have:(init.concat e).dropLast=init:=by simp
rw [this]
exact lN init [e] h
exact h}
theorem lP (s:Q3 Q4):(blL s).length<=s.length:=by{
have h:=dC (s.map spU) []
simp only [DK,Yv,YY] at h
unfold blL EE
split
rw [List.length_dropLast];omega
exact h}
def DE (t:Q3 Q4):Q3 Q4:=if t.head? = some 32 then t.tail else t
theorem lQ (t:Q3 Q4):(DE t).length<=t.length:=by{
unfold DE
split
simp
exact Yn _}
theorem lR {t:Q3 Q4} (h:sgl t=true):sgl (DE t)=true:=by{
unfold DE
split
cases t with
| nil=>rfl
| cons c t=>exact LS h
exact h}
theorem lS {t:Q3 Q4} (n:Nat) (h:sgl t=true):sgl (t.drop n)=true:=by
 have:sgl (t.take n++t.drop n)=true:=by rw [YQ];exact h
 exact dF this
theorem lT (c:Q4) (l:Q3 Q4):([c]:Q3 Q4).isPrefixOf l=decide (l.head? = some c):=by{
cases l with
| nil=>rfl
| cons d l=>
  show (c == d&&List.isPrefixOf [] l)=_
  by_cases h:d=c
  subst h;simp
  rw [show (c == d)=false from by rw [YL];exact fun e=>h e.symm,Yf (fun e=>h (by injection e))]
  rfl}
theorem lW (t:Q3 Q4):PI (bs t) ⟨#[32]⟩=some (bs (DE t)):=by{
refine ZI ?_
unfold PI WC
have hp:ZB (bs t) ⟨#[32]⟩=some (decide (t.head? = some 32)):=by
 have:=WF t [32]
 rw [lT] at this
 exact this
refine ZS (Q:=fun r=>r=bs (DE t)) (Za hp (Zc (fun h=>?_) fun h=>?_)) fun r hr=>Zd hr
unfold DE
rw [if_pos h]
cases t with
| nil=>cases h
| cons c t=>exact Za (F4 (c::t) 1 (by simp)) (Zd rfl)
unfold DE
rw [if_neg h]
exact Zd rfl}
theorem lZ (t:Q3 Q4) (n:Nat) (h:n<=t.length) (hl:t.length<=1000000):N9 (bs t) (n:Int)=some (bs (DE (t.drop n))):=by{
refine ZI ?_
unfold N9
refine Za (F4 t n h) ?_
cases hd:t.drop n with
| nil=>
  refine ZX (Zc (fun h=>absurd h (by decide)) fun _=>?_)
  exact ZX (Zi nofun fun _=>Zd rfl)
| cons c q=>
  refine Zt (fun k=>(c=32->Tot (k true) (fun r=>r=bs (DE (c::q))))/\(¬ c=32->Tot (k false) (fun r=>r=bs (DE (c::q))))) ⟨fun hc=>?_,fun hc=>?_⟩ fun k hk=>?_
  refine ZX (Zi (fun _=>?_) nofun)
  refine Za (F4 (c::q) 1 (by simp)) (Zd ?_)
  unfold DE
  rw [if_pos (by rw [hc];rfl)]
  rfl
  refine ZX (Zi nofun fun _=>Zd ?_)
  unfold DE
  rw [if_neg (fun e=>hc (by injection e))]
  have z:(bs (c::q)).size=q.length+1:=rfl
  refine Zc (fun _=>?_) fun h=>absurd (by omega) h
  refine Za (BC (L:=c::q) (n:=0) rfl) ?_
  by_cases hc:c=32
  rw [Yh (e32.2 hc)]
  exact hk.1 hc
  rw [Yf (fun h=>hc (e32.1 h))]
  exact hk.2 hc}
def PU (nm:Q3 Q4):Bool:=match nm with | []=>false | c::_=>decide (97<=c.toNat)&&decide (c.toNat<=122)
def LU (nm:Q3 Q4):Q3 Q4:=match nm with | []=>[] | c::l=>if PU (c::l)=true then UInt8.ofNat (c.toNat-32)::l else c::l
def D6 (n:Int) (nm:Q3 Q4):Title×Int:=if 100<(LU nm).length then (⟨0,⟨#[]⟩⟩,3) else if (⟨n,bs (LU nm)⟩:Title).valid=true then (⟨n,bs (LU nm)⟩,0) else (⟨0,⟨#[]⟩⟩,1)
def AR (u:Q3 Q4):Int×Q3 Q4:=match BW u with | some (n,r)=>(n,DE r) | none=>(0,u)
def BM (u:Q3 Q4):Q3 Q4:=if u.head? = some 58 then DE (u.drop 1) else u
def BF (s:Q3 Q4):Title×Int:=D6 (AR (BM (blL s))).1 (filt false (AR (BM (blL s))).2)
theorem m0 (a b:Q3 Q4) (h:a.length+b.length<=9223372036854775807):BV (bs a) (bs b)=some (bs (a++b)):=by
 rw [VI (show (bs a).size+(bs b).size<=_ from h),cZ]
theorem m4 (V:Title->Q2 Bool) (hV:∀ t,V t=some t.valid) (n:Int) (nm:Q3 Q4) (hl:nm.length<=1000000) (b:Bool) (hb:b=PU nm) :
  Tot (letk (fun (x18:Q1)=>if (decide (100<(x18.size:Int))) then (some ((⟨0,(⟨#[]⟩:Q1)⟩:Title),3):Q2 (Title×Int)) else (V (⟨n,x18⟩:Title)).bind fun r19=>if (!r19) then (some ((⟨0,(⟨#[]⟩:Q1)⟩:Title),1):Q2 (Title×Int)) else (some ((⟨n,x18⟩:Title),0):Q2 (Title×Int))) fun k4=>
   if b then (atS (bs nm) 0).bind fun c20=>(AH (bs nm) 1 ((bs nm).size:Int)).bind fun l21=>(BV (strOfNums [(IntKind.wrap .u8 (c20-32))]) l21).bind fun s22=>k4 s22 else k4 (bs nm)) (fun r=>r=D6 n nm):=by{
refine Zt (fun q=>Tot (q (bs (LU nm))) (fun r=>r=D6 n nm)) ?_ fun k4 h4=>?_
have z:(bs (LU nm)).size=(LU nm).length:=rfl
unfold D6
refine Zc (fun h=>?_) fun h=>?_
rw [if_pos (by omega)]
exact Zd rfl
rw [if_neg (by omega)]
refine Za (hV _) ?_
cases hv:(⟨n,bs (LU nm)⟩:Title).valid with
| true=>
  rw [if_pos rfl]
  exact Zi nofun fun _=>Zd rfl
| false=>
  rw [if_neg RJ]
  exact Zi (fun _=>Zd rfl) nofun
subst hb
cases nm with
| nil=>exact Zi nofun fun _=>h4
| cons c l=>
  have hcap:LU (c::l)=if PU (c::l)=true then UInt8.ofNat (c.toNat-32)::l else c::l:=rfl
  rw [hcap] at h4
  refine Zi (fun h=>?_) fun h=>?_
  rw [if_pos h] at h4
  refine Za (BC (L:=c::l) (n:=0) rfl) (Za (F4 (c::l) 1 (by simp)) ?_)
  have hlow:97<=c.toNat/\c.toNat<=122:=by
   unfold PU at h
   simpa using h
  have e:strOfNums [(IntKind.wrap .u8 ((c.toNat:Int)-32))]=bs [UInt8.ofNat (c.toNat-32)]:=by
   have e1:IntKind.wrap .u8 ((c.toNat:Int)-32)=((c.toNat-32:Nat):Int):=by
    show ((c.toNat:Int)-32) % 256=_
    omega
   rw [e1]
   rfl
  rw [e]
  refine Za (m0 [UInt8.ofNat (c.toNat-32)] l (by simp at hl ⊢;omega)) ?_
  exact h4
  rw [if_neg (by rw [h];decide)] at h4
  exact h4}
theorem m5 (u:Q3 Q4):(BM u).length<=u.length:=by{
unfold BM
split
exact YX (lQ _) (by rw [Yx];omega)
exact Yn _}
theorem Zxx {u:Q3 Q4} (h:sgl u=true):sgl (BM u)=true:=by{
unfold BM
split
exact lR (lS 1 h)
exact h}
theorem m6 (u:Q3 Q4):(AR u).2.length<=u.length:=by{
unfold AR
cases hp:BW u with
| none=>exact Yn _
| some q=>exact YX (lQ _) (ZpK (n:=q.1) (r:=q.2) hp)}
theorem Zxy {u:Q3 Q4} (h:sgl u=true):sgl (AR u).2=true:=by{
unfold AR
cases hp:BW u with
| none=>exact h
| some q=>
  obtain ⟨_,h2,_⟩:=cP (n:=q.1) (r:=q.2) hp
  show sgl (DE q.2)=true
  rw [h2]
  exact lR (lS _ h)}
theorem Zvw:∀ (w:Q3 Q4) (b:Bool),(filt b w).length<=w.length:=by{
intro w
induction w with
| nil=>intro b;exact Yn _
| cons c w ih=>
  intro b
  rw [PT]
  split
  exact Nat.le_succ_of_le (ih false)
  exact Nat.succ_le_succ (ih _)}
theorem Znd (s:Q3 Q4) (h:s.length<=300000):T0 (bs s)=some (BF s):=by{
have hu:=lP s
have su:=ZxA s
have hT:BF s=D6 (AR (BM (blL s))).1 (filt false (AR (BM (blL s))).2):=rfl
rw [hT]
refine ZI ?_
unfold T0
refine Za (ZrY s h) (Za (ZsZ (s.map spU) (by rw [Yv];omega)) ?_)
have hbl:EE ((s.map spU).foldl BI [])=blL s:=rfl
rw [hbl]
generalize blL s=u at hu su ⊢
have hpre:ZR (bs u) ⟨#[58]⟩=some (decide (u.head? = some 58)):=by
 unfold ZR
 have:=WF u [58]
 rw [lT] at this
 exact CA (fun x=>Option.bind x fun r=>some r) this
refine Za hpre ?_
have hc1:=m5 u
have sc:=Zxx su
refine Zt (fun q=>Tot (q (bs (BM u))) (fun r=>r=D6 (AR (BM u)).1 (filt false (AR (BM u)).2))) ?_ fun k1 hk1=>?_
generalize BM u=v at hc1 sc ⊢
have zv:(bs v).size=v.length:=rfl
have hpl:=m6 v
have sp:=Zxy sc
have hty:SR (bs v)=some (match BW v with | some q=>(q.1,bs q.2,true) | none=>(0,⟨#[]⟩,false)):=by
 unfold SR
 rw [if_pos (by omega)]
 show (match BW v with | some q=>some (q.1,bs q.2,true) | none=>some (0,⟨#[]⟩,false))=_
 cases BW v<;>rfl
refine Za hty ?_
refine Zt (fun q=>Tot (q (bs (AR v).2) (AR v).1) (fun r=>r=D6 (AR v).1 (filt false (AR v).2))) ?_ fun k2 hk2=>?_
refine Za (Zrm (AR v).2 (by omega) sp) ?_
have hfl:=Zvw (AR v).2 false
generalize filt false (AR v).2=nm at hfl ⊢
refine Zt (fun q=>Tot (q (PU nm)) (fun r=>r=D6 (AR v).1 nm)) ?_ fun k3 hk3=>?_
exact m4 cR (fun _=>rfl) (AR v).1 nm (by omega) _ rfl
cases nm with
| nil=>exact CM (fun h=>absurd rfl h) fun _=>hk3
| cons c l=>
  have hk3:Tot (k3 (decide (97<=c.toNat)&&decide (c.toNat<=122))) (fun r=>r=D6 (AR v).1 (c::l)):=hk3
  refine CM (fun _=>?_) fun h=>absurd (JH (b:=[]) h) (by simp)
  refine Za (BC (L:=c::l) (n:=0) rfl) (Zc (fun h1=>?_) fun h1=>?_)
  refine Za (BC (L:=c::l) (n:=0) rfl) ?_
  rw [Yh (show 97<=c.toNat by omega),RP] at hk3
  have e:decide ((c.toNat:Int)<=122)=decide (c.toNat<=122):=by
   by_cases h2:c.toNat<=122
   rw [Yh h2,Yh (by omega)]
   rw [Yf h2,Yf (by omega)]
  rw [e]
  exact hk3
  rw [Yf (show ¬ 97<=c.toNat by omega),Bool.false_and] at hk3
  exact hk3
cases hp:BW v with
| none=>
  have e1:AR v=(0,v):=by unfold AR;rw [hp]
  rw [e1] at hk2 ⊢
  exact Zi nofun fun _=>hk2
| some q=>
  have e1:AR v=(q.1,DE q.2):=by unfold AR;rw [hp]
  rw [e1] at hk2 ⊢
  refine Zi (fun _=>?_) nofun
  exact Za (lW q.2) hk2
refine Zc (fun hh=>?_) fun hh=>?_
have e1:BM u=DE (u.drop 1):=by unfold BM;rw [if_pos hh]
rw [e1] at hk1 ⊢
cases u with
| nil=>cases hh
| cons c u=>
  refine Za (F4 (c::u) 1 (by simp)) ?_
  exact Za (lW _) hk1
have e1:BM u=u:=by unfold BM;rw [if_neg hh]
rw [e1] at hk1 ⊢
exact hk1}
theorem ZtL {y:Q3 Q4} {i:Nat} {c:Q4} (h:y[i]? = some c) (b:Bool):filt b (y.drop i)=if c=32/\(b=true\/y[i+1]? = some 47) then filt false (y.drop (i+1)) else c::filt (decide (c=47)) (y.drop (i+1)):=by
 obtain ⟨h1,h2⟩:=Yd.1 h
 rw [Yt h1,h2,PT,List.head?_drop]
theorem e47 {e:Q4}:((e.toNat:Int)=47)↔e=47:=⟨fun h=>GM.1 (show e.toNat=47 by omega),fun h=>by rw [h];rfl⟩
theorem ZrL (n:Q3 Q4):0<=CD n:=by
 unfold CD
 repeat (first | omega | split)
theorem dI (s:Q3 Q4) (h:s.length<=300000):JG (bs s)=some (BF s):=by{
have hu:=lP s
have hT:BF s=D6 (AR (BM (blL s))).1 (filt false (AR (BM (blL s))).2):=rfl
rw [hT]
refine ZI ?_
unfold JG
refine Za (Zt6 s h) ?_
generalize blL s=u at hu ⊢
have hc1:=m5 u
refine Zt (fun q=>(u.head? = some 58->Tot (q true) (fun r=>r=D6 (AR (BM u)).1 (filt false (AR (BM u)).2)))/\(¬ u.head? = some 58->Tot (q false) (fun r=>r=D6 (AR (BM u)).1 (filt false (AR (BM u)).2)))) ?_ fun k1 hk1=>?_
·have main:∀ {R:Title×Int->Prop} (k2:Q1->Q2 (Title×Int)),Tot (k2 (bs (BM u))) R->(u.head? = some 58->Tot ((N9 (bs u) 1).bind fun r149=>k2 r149) R)/\(¬ u.head? = some 58->Tot (k2 (bs u)) R):=fun k2 hk=>by
  refine ⟨fun hh=>?_,fun hh=>?_⟩
  have e1:BM u=DE (u.drop 1):=by unfold BM;rw [if_pos hh]
  rw [e1] at hk
  have hl:1<=u.length:=by cases u with
   | nil=>cases hh
   | cons c u=>simp
  exact Za (lZ u 1 hl (by omega)) hk
  have e1:BM u=u:=by unfold BM;rw [if_neg hh]
  rw [e1] at hk
  exact hk
 refine ⟨fun hh=>?_,fun hh=>?_⟩
 all_goals
  refine Zt (fun q=>Tot (q (bs (BM u))) (fun r=>r=D6 (AR (BM u)).1 (filt false (AR (BM u)).2))) ?_ fun k2 hk2=>?_
  generalize BM u=v at hc1 ⊢
  have zv:(bs v).size=v.length:=rfl
  have hpl:=m6 v
  refine Za (v:=GW (bs v)) (by unfold WD;rw [if_pos (by omega)]) ?_
  have hr:GW (bs v)=match BW v with | some (n,_)=>(n,Lib.index v [58]) | none=>(0,0):=jY (bs v)
  have e6:(GW (bs v)).1=(AR v).1:=by
   rw [hr];unfold AR
   cases BW v<;>rfl
  rw [e6]
  refine Zt (fun q=>Tot (q (bs (AR v).2)) (fun r=>r=D6 (AR v).1 (filt false (AR v).2))) ?_ fun k3 hk3=>?_
  generalize (AR v).1=n
  generalize (AR v).2=y at hpl ⊢
  have zy:(bs y).size=y.length:=rfl
  refine ZF (fun x=>∃ (i:Nat) (acc:Q3 Q4),x.2=(i:Int)/\i<=y.length/\x.1=bs acc/\acc.length<=i/\filt false y=acc++filt (decide (0<i/\y[i-1]? = some 47)) (y.drop i)) (fun x=>y.length-x.2.toNat) ⟨0,[],rfl,Nat.zero_le _,rfl,Nat.le_refl _,rfl⟩ (by dsimp only;omega) ?_
  rintro ⟨o,i'⟩ rec ⟨i,acc,hi,hn,ho,hal,hf⟩ ih
  dsimp only at hi ho ih ⊢
  subst hi ho
  refine Zc (fun hlt=>?_) fun hge=>?_
  ·obtain ⟨c,hc⟩:∃ c,y[i]? = some c:=⟨_,Yc (by omega)⟩
   rw [ZtL hc] at hf
   have hb':decide (0<i+1/\y[i+1-1]? = some 47)=decide (c=47):=by
    rw [RK,hc]
    by_cases h:c=47
    rw [Yh h,Yh ⟨by omega,by rw [h]⟩]
    rw [Yf h,Yf (fun k=>h (DB k.2))]
   have next:∀ a2:Q3 Q4,a2.length<=i+1->filt false y=a2++filt (decide (c=47)) (y.drop (i+1))->Tot (rec (bs a2,w64 ((i:Int)+1))) (fun r=>r=D6 n (filt false y)):=fun a2 h1 h2=>by
    rw [ZK]
    exact ih _ ⟨i+1,a2,by simp,by omega,rfl,h1,by rw [hb'];exact h2⟩ (by dsimp only;omega)
   refine Zt (fun q=>∀ a2:Q3 Q4,a2.length<=i+1->filt false y=a2++filt (decide (c=47)) (y.drop (i+1))->Tot (q (bs a2)) (fun r=>r=D6 n (filt false y))) next fun k22 h22=>?_
   refine Zt (fun q=>((c=32/\(decide (0<i/\y[i-1]? = some 47)=true\/y[i+1]? = some 47))->Tot (q true) (fun r=>r=D6 n (filt false y)))/\(¬ (c=32/\(decide (0<i/\y[i-1]? = some 47)=true\/y[i+1]? = some 47))->Tot (q false) (fun r=>r=D6 n (filt false y)))) ⟨fun hx=>?_,fun hx=>?_⟩ fun k23 h23=>?_
   refine Zi (fun _=>?_) nofun
   rw [if_pos hx] at hf
   exact h22 acc (by omega) (by rw [hf,hx.1];rfl)
   refine Zi nofun fun _=>?_
   rw [if_neg hx] at hf
   have e1:w64 ((i:Int)+1)=((i+1:Nat):Int):=by rw [ZK];rfl
   have e2:(y.take (i+1)).drop i = [c]:=by
    obtain ⟨hl,he⟩:=Yd.1 hc
    rw [RB hl,XY (by rw [YE];omega),YI (by rw [YE];omega),he]
    rfl
   rw [e1]
   refine Za (GD y i (i+1) (by omega) (by omega)) ?_
   rw [e2]
   refine Za (m0 acc [c] (by simp;omega)) (h22 (acc ++ [c]) (by simp;omega) ?_)
   rw [hf,YM]
   rfl
   have e1:w64 ((i:Int)+1)=((i+1:Nat):Int):=by rw [ZK];rfl
   refine Za (BC hc) (Zc (fun h32=>?_) fun h32=>h23.2 fun k=>h32 (e32.2 k.1))
   have hc32:=e32.1 h32
   have nxt:¬ (decide (0<i/\y[i-1]? = some 47)=true)->Tot (if decide (w64 ((i:Int)+1)<((bs y).size:Int))=true then (atS (bs y) (w64 ((i:Int)+1))).bind fun c=>k23 (decide (c=47)) else k23 false) (fun r=>r=D6 n (filt false y)):=fun hp=>by
    rw [e1]
    refine Zc (fun hl=>?_) fun hl=>h23.2 fun k=>?_
    obtain ⟨d,hd⟩:∃ d,y[i+1]? = some d:=⟨_,Yc (by omega)⟩
    refine Za (BC hd) ?_
    by_cases h47:d=47
    rw [Yh (e47.2 h47)]
    exact h23.1 ⟨hc32,.inr (by rw [hd,h47])⟩
    rw [Yf (fun h=>h47 (e47.1 h))]
    exact h23.2 fun k=>k.2.elim hp fun k2=>h47 (by rw [hd] at k2;exact DB k2)
    refine k.2.elim hp fun k2=>?_
    rw [YZ (by omega)] at k2
    cases k2
   refine Zc (fun hpos=>?_) fun hz=>nxt fun k=>by have:=(GK k).1;omega
   have e3:w64 ((i:Int)-1)=((i-1:Nat):Int):=by rw [ZK];omega
   obtain ⟨d,hd⟩:∃ d,y[i-1]? = some d:=⟨_,Yc (by omega)⟩
   rw [e3]
   refine Za (BC hd) (Zc (fun h47=>?_) fun h47=>nxt fun k=>?_)
   exact h23.1 ⟨hc32,.inl (Yh ⟨by omega,by rw [hd,e47.1 h47]⟩)⟩
   have:=(GK k).2
   rw [hd] at this
   exact h47 (e47.2 (DB this))
  have hne:i=y.length:=by omega
  subst hne
  rw [GL] at hf
  have hf:filt false y=acc:=by rw [hf];exact YB _
  rw [hf]
  refine Zt (fun q=>Tot (q (PU acc)) (fun r=>r=D6 n acc)) ?_ fun k24 h24=>?_
  exact m4 cQ (fun _=>rfl) n acc (by omega) _ rfl
  cases acc with
  | nil=>exact Zc (fun h=>absurd h (by decide)) fun _=>h24
  | cons c l=>
    have h24:Tot (k24 (decide (97<=c.toNat)&&decide (c.toNat<=122))) (fun r=>r=D6 n (c::l)):=h24
    have z:(bs (c::l)).size=l.length+1:=rfl
    refine Zc (fun _=>?_) fun h=>absurd (by omega) h
    refine Za (BC (L:=c::l) (n:=0) rfl) (Zc (fun h1=>?_) fun h1=>?_)
    refine Za (BC (L:=c::l) (n:=0) rfl) ?_
    rw [Yh (show 97<=c.toNat by omega),RP] at h24
    have e:decide ((c.toNat:Int)<=122)=decide (c.toNat<=122):=by
     by_cases h2:c.toNat<=122
     rw [Yh h2,Yh (by omega)]
     rw [Yf h2,Yf (by omega)]
    rw [e]
    exact h24
    rw [Yf (show ¬ 97<=c.toNat by omega),Bool.false_and] at h24
    exact h24
  cases hp:BW v with
  | none=>
    have e1:AR v=(0,v):=by unfold AR;rw [hp]
    rw [e1] at hk3 ⊢
    exact Zc (fun h=>absurd h (by dsimp only;omega)) fun _=>hk3
  | some q=>
    have e1:AR v=(q.1,DE q.2):=by unfold AR;rw [hp]
    obtain ⟨g1,g2,g3,g4⟩:=cP (n:=q.1) (r:=q.2) hp
    have g5:=ZrL (AC (Lib.trimSuffix (v.take (Lib.index v [58]).toNat) [32]))
    rw [hp] at hr
    have hr2:(GW (bs v)).2=Lib.index v [58]:=by rw [hr]
    have hroom:=Lib.index_room v [58] g1
    simp only [YC] at hroom
    rw [e1] at hk3 ⊢
    refine Zc (fun _=>?_) fun h=>absurd (by dsimp only;omega) h
    rw [hr2]
    have e7:w64 (Lib.index v [58]+1)=(((Lib.index v [58]).toNat+1:Nat):Int):=by rw [ZK];omega
    rw [e7]
    refine Za (lZ v _ (by omega) (by omega)) ?_
    rw [<- g2]
    exact hk3
  first
  | exact Zi (fun _=>(main k2 hk2).1 hh) nofun
  | exact Zi nofun fun _=>(main k2 hk2).2 hh
cases u with
| nil=>exact Zc (fun h=>absurd h (by decide)) fun _=>hk1.2 (by decide)
| cons c l=>
  have z:(bs (c::l)).size=l.length+1:=rfl
  refine Zc (fun _=>?_) fun h=>absurd (by omega) h
  refine Za (BC (L:=c::l) (n:=0) rfl) ?_
  by_cases hc:c=58
  rw [Yh (show (c.toNat:Int)=58 by rw [hc];rfl)]
  exact hk1.1 (by rw [hc];rfl)
  rw [Yf (fun h=>hc (GM.1 (show c.toNat=58 by omega)))]
  exact hk1.2 fun e=>hc (by injection e)}
end
namespace VL
theorem C5 {p q:Prop} (k:q) (h:q->p:=by
 (intro k)
 (first
  | refine Zr rfl (by (conv=>lhs;whnf);try rfl) ?_
  | refine ZJ rfl rfl rfl ?_
  | refine Zm rfl rfl ?_
  | refine Zs rfl (by (conv=>lhs;whnf);try rfl) ?_
  | refine A7 rfl rfl rfl rfl (by (conv=>lhs;whnf);try rfl) ?_
  | refine HA rfl rfl rfl rfl (by (conv=>lhs;whnf);try rfl) ?_
  | refine AA rfl rfl ?_
  | refine i6 rfl rfl ?_
  | refine i8 rfl rfl ?_
  | refine g_bits rfl rfl rfl rfl ?_
  | refine i7 rfl rfl rfl (by decide) ?_
  | refine G5 rfl rfl ?_
  | refine J9 rfl (by (conv=>lhs;whnf);try rfl) (by (conv=>lhs;whnf);try rfl) (by rfl) ?_
  | refine GR rfl rfl ?_
  | refine BS rfl rfl rfl (by (conv=>lhs;whnf);try rfl) (by (conv=>lhs;whnf);try rfl) (by rfl) (by rfl) (Yk rfl) (by (conv=>lhs;whnf);try rfl) ?_
  | refine D4 rfl rfl ?_
  | refine E9 rfl rfl rfl (by rfl) (by decide) (by (conv=>lhs;whnf);try rfl) ?_
  | refine OT rfl rfl rfl ?_
  | refine V8 rfl rfl ?_
  | refine B5 rfl rfl (by (conv=>lhs;whnf);try rfl) ?_
  | refine i5 rfl rfl rfl ?_
  | refine Zf ?_
  | refine EU (by kernel_rfl) ?_
  | refine Zl ?_
  | refine Zb ?_
  | refine CB ?_
  | refine ZH ?_
  | refine CI ?_
  | refine DD ?_
  | refine ZE ?_
  | refine GQ ?_
  | refine aU ?_
  | refine BR ?_
  | refine MU ?_
  | refine aV ?_)
 (exact k)):p:=h k
end VL
end Go.Proofs.YtmgfammllddkhaaGreatDoor
