/- Functions of the program as Lean functions. Written by -/
import Derived.Test.YtpdaeclbndpabaaGreatDoorCM22
set_option linter.unusedSimpArgs false
set_option linter.unusedVariables false
set_option maxHeartbeats 4000000
set_option maxRecDepth 100000
namespace Go.Proofs.YtpdaeclbndpabaaGreatDoor
section
open VL
def Ze7 (p0:List Edit) (p1:Int) (p2:List ByteArray):Option (List Edit):=if (decide ((p2.length:Int)=0)) then (some p0:Option (List Edit)) else (Zbo 32 [] p0).bind fun l1=>(Zbo 16 [] p2).bind fun l2=>(Zbo 32 l1 [(⟨p1,l2⟩:Edit)]).bind fun l3=>(some l3:Option (List Edit))
theorem Zfs (p0:List Edit) (p1:Int) (p2:List ByteArray) (r:List Edit) (h:Ze7 p0 p1 p2=some r):Zb Tryz.prog 110 [.sl (List.map Edit.cs p0),.int .i64 p1,.sl (List.map csS p2)] (.sl (List.map Edit.cs r)):=by{
refine cF (fun r=>.sl (List.map Edit.cs r)) h mix Tryz.func110 fun r h=>?_
unfold Ze7 at h
refine Zf ?_
refine rg ?_
refine rg ?_
refine lM csS p2 ?_
refine cS h rfl (fun h=>?_) fun h=>?_
refine rg ?_
cases h
exact rQ
refine rg ?_
obtain ⟨l1,h1,h⟩:=bnd h
refine ZeS (f:=Edit.cs) rfl h1 (fun _=>rfl) rfl rfl rfl (Zf ?_)
obtain ⟨l2,h2,h⟩:=bnd h
refine ZeS (f:=csS) rfl h2 (fun _=>rfl) rfl rfl rfl (Zf ?_)
refine ZF (M:=([(⟨p1,l2⟩:Edit)]:List Edit)) (f:=Edit.cs) rfl rfl rfl rfl (Nat.le_of_ble_eq_true rfl) rfl (Zf ?_)
refine pR Edit.cs h fun l3 h=>?_
cases h
exact rQ}
def Zhc (p0:ByteArray) (p1:ByteArray):Option (List Edit):=(Zfg p0).bind fun r1=>(Zfg p1).bind fun r2=>letk (fun (x3:Bool)=>if x3 then if (decide (p0=p1)) then (Ze7 [] 1 r1).bind fun r9=>(some r9:Option (List Edit)) else (Ze7 [] 2 r1).bind fun r10=>(Ze7 r10 3 r2).bind fun r11=>(some r11:Option (List Edit)) else (Zg8 r1 r2).bind fun r12=>ZE Zaq (fun f118 ((x780,x781,x782):(List Edit)×Int×Int)=>letk (fun (x974:Bool)=>if x974 then ZE Zaq (fun f126 ((x997,x998):Int×Int)=>letk (fun (x1006:Bool)=>if x1006 then f126 ((w64 (x997+1)),(w64 (x998+1))) else (Zgj r1 x781 x997).bind fun l1007=>(Ze7 x780 1 l1007).bind fun r1008=>ZE Zaq (fun f139 ((x1109,x1110,x1111,x1112):Int×Int×(List ByteArray)×(List ByteArray))=>letk (fun (x1141:Bool)=>if x1141 then letk (fun (x1146:Bool)=>if x1146 then (atI r1 x1109).bind fun e1149=>(Zbo 16 x1111 [e1149]).bind fun l1150=>f139 ((w64 (x1109+1)),x1110,l1150,x1112) else (atI r2 x1110).bind fun e1151=>(Zbo 16 x1112 [e1151]).bind fun l1152=>f139 (x1109,(w64 (x1110+1)),x1111,l1152)) fun k141=>if (decide (x1110=(r2.length:Int))) then k141 true else if (decide (x1109<(r1.length:Int))) then (atI r12 (w64 (x1109+1))).bind fun e1153=>(atI e1153 x1110).bind fun e1154=>(atI r12 x1109).bind fun e1155=>(atI e1155 (w64 (x1110+1))).bind fun e1156=>k141 (decide (e1156<=e1154)) else k141 false else (Ze7 r1008 2 x1111).bind fun r1157=>(Ze7 r1157 3 x1112).bind fun r1158=>f118 (r1158,x1109,x1110)) fun k140=>if (decide (x1109<(r1.length:Int))) then if (decide (x1109=(r1.length:Int))) then k140 true else if (decide (x1110=(r2.length:Int))) then k140 true else (atI r1 x1109).bind fun e1159=>(atI r2 x1110).bind fun e1160=>k140 (!decide (e1159=e1160)) else if (decide (x1110<(r2.length:Int))) then if (decide (x1109=(r1.length:Int))) then k140 true else if (decide (x1110=(r2.length:Int))) then k140 true else (atI r1 x1109).bind fun e1161=>(atI r2 x1110).bind fun e1162=>k140 (!decide (e1161=e1162)) else k140 false) (x997,x998,([]:List ByteArray),([]:List ByteArray))) fun k127=>if (decide (x997<(r1.length:Int))) then if (decide (x998<(r2.length:Int))) then (atI r1 x997).bind fun e1163=>(atI r2 x998).bind fun e1164=>k127 (decide (e1163=e1164)) else k127 false else k127 false) (x781,x782) else (some x780:Option (List Edit))) fun k119=>if (decide (x781<(r1.length:Int))) then k119 true else k119 (decide (x782<(r2.length:Int)))) ([],0,0)) fun k1=>if (decide (1000<(r1.length:Int))) then k1 true else k1 (decide (1000<(r2.length:Int)))
theorem ZrL (p0:ByteArray) (p1:ByteArray) (r:List Edit) (h:Zhc p0 p1=some r):Zb Tryz.prog 54 [.str p0,.str p1] (.sl (List.map Edit.cs r)):=by{
refine cF (fun r=>.sl (List.map Edit.cs r)) h mix Tryz.func54 fun r h=>?_
unfold Zhc at h
refine Zf ?_
refine rg ?_
refine rg ?_
refine aC h (ZkA _) fun r1 h=>?_
refine aC h (ZkA _) fun r2 h=>?_
refine jL h (fun x3=>mkS [(0,.str p0),(1,.str p1),(5,.sl (List.map csS r1)),(6,.sl (List.map csS r2)),(25,.bool x3)] [] 2) (fun k1 h=>?_) fun x3 h=>?_
refine rg ?_
refine lM csS r1 ?_
refine kS 21 h rfl (fun h=>?_) fun h=>?_
iterate 3 refine Zg rfl (Zf ?_)
exact jn true h (sR [])
refine lM csS r2 ?_
exact jn (decide (1000<(r2.length:Int))) h (sR [])
refine cS h rfl (fun h=>?_) fun h=>?_
refine rg ?_
refine cS h rfl (fun h=>?_) fun h=>?_
refine rg ?_
refine aC h (Zfs _ _ _) fun r9 h=>?_
cases h
exact rQ
refine rg ?_
refine aC h (Zfs _ _ _) fun r10 h=>?_
refine aC h (Zfs _ _ _) fun r11 h=>?_
cases h
exact rQ
refine rg ?_
refine aC h (Zol _ _) fun r12 h=>?_
refine rg ?_
refine rg ?_
refine bl ?_
refine Zk h fun f118 mf118 hf118 h=>?_
refine Zi (α:=Nat×((List Edit)×Int×Int)) (fun a _=>mkS [(5,.sl (List.map csS r1)),(6,.sl (List.map csS r2)),(7,.sl (List.map (fun y=>[PV.sl (y.map csI)]) r12)),(8,.sl (List.map Edit.cs a.2.1)),(9,.int .i64 a.2.2.1),(10,.int .i64 a.2.2.2)] [] 2) (fun a=>ZE a.1 f118 a.2=some r) (fun a=>a.1) (mf118,[],0,0) 2 h (Shift.trans (Zjn 8 rfl rfl) (sR [])) (fun a _ h=>?_)
obtain ⟨mf118,x780,x781,x782⟩:=a
obtain ⟨mf118,rfl,h⟩:=Zl hf118 h
dsimp only at h ⊢
refine Zf ?_
refine jL h (fun x974=>mkS [(5,.sl (List.map csS r1)),(6,.sl (List.map csS r2)),(7,.sl (List.map (fun y=>[PV.sl (y.map csI)]) r12)),(8,.sl (List.map Edit.cs x780)),(9,.int .i64 x781),(10,.int .i64 x782),(47,.bool x974)] [] 2) (fun k119 h=>?_) fun x974 h=>?_
refine rg ?_
refine lM csS r1 ?_
refine kS 42 h rfl (fun h=>?_) fun h=>?_
iterate 4 refine Zg rfl (Zf ?_)
exact jn true h (sR [])
refine lM csS r2 ?_
exact jn (decide (x782<(r2.length:Int))) h (sR [])
refine cS h rfl (fun h=>?_) fun h=>?_
refine bl ?_
refine rg ?_
refine bl ?_
refine Zk h fun f126 mf126 hf126 h=>?_
refine Zi (α:=Nat×(Int×Int)) (fun a _=>mkS [(5,.sl (List.map csS r1)),(6,.sl (List.map csS r2)),(7,.sl (List.map (fun y=>[PV.sl (y.map csI)]) r12)),(8,.sl (List.map Edit.cs x780)),(9,.int .i64 a.2.1),(10,.int .i64 a.2.2),(11,.int .i64 x781)] [] 2) (fun a=>ZE a.1 f126 a.2=some r) (fun a=>a.1) (mf126,x781,x782) 2 h (sR []) (fun a _ h=>?_)
obtain ⟨mf126,x997,x998⟩:=a
obtain ⟨mf126,rfl,h⟩:=Zl hf126 h
dsimp only at h ⊢
refine Zf ?_
refine jL h (fun x1006=>mkS [(5,.sl (List.map csS r1)),(6,.sl (List.map csS r2)),(7,.sl (List.map (fun y=>[PV.sl (y.map csI)]) r12)),(8,.sl (List.map Edit.cs x780)),(9,.int .i64 x997),(10,.int .i64 x998),(11,.int .i64 x781),(69,.bool x1006)] [] 2) (fun k127 h=>?_) fun x1006 h=>?_
refine rg ?_
refine lM csS r1 ?_
refine kS 53 h rfl (fun h=>?_) fun h=>?_
refine lM csS r2 ?_
refine kS 59 h rfl (fun h=>?_) fun h=>?_
refine aI csS h fun e1163 h=>?_
refine aI csS h fun e1164 h=>?_
exact jn (decide (e1163=e1164)) h (sR [])
iterate 9 refine Zg rfl (Zf ?_)
exact jn false h (sR [])
iterate 13 refine Zg rfl (Zf ?_)
exact jn false h (sR [])
refine cS h rfl (fun h=>?_) fun h=>?_
refine bl ?_
refine rg ?_
exact rn (mf126,(w64 (x997+1)),(w64 (x998+1))) h (sR [])
refine rg ?_
refine sM csS h fun l1007 h=>?_
refine aC h (Zfs _ _ _) fun r1008 h=>?_
refine rg ?_
refine bl ?_
refine Zk h fun f139 mf139 hf139 h=>?_
refine Zi (α:=Nat×(Int×Int×(List ByteArray)×(List ByteArray))) (fun a _=>mkS [(5,.sl (List.map csS r1)),(6,.sl (List.map csS r2)),(7,.sl (List.map (fun y=>[PV.sl (y.map csI)]) r12)),(8,.sl (List.map Edit.cs r1008)),(9,.int .i64 a.2.1),(10,.int .i64 a.2.2.1),(12,.row 12 (1,12)),(13,.row 13 (1,13))] [(12,some ((1,12),.row 9 1 false (List.map csS a.2.2.2.1))),(13,some ((1,13),.row 9 1 false (List.map csS a.2.2.2.2)))] 2) (fun a=>ZE a.1 f139 a.2=some r) (fun a=>a.1) (mf139,x997,x998,([]:List ByteArray),([]:List ByteArray)) 2 h (Shift.trans (Zrk 12 12 9 1 rfl) (Zam [((1,12),(4,0))] 13 9 1 rfl ⟨rfl,rfl,rfl,rfl,rfl,rfl,rfl,rfl,trivial⟩ ⟨⟨rfl,rfl⟩,⟨rfl,rfl⟩,trivial⟩ rfl)) (fun a _ h=>?_)
obtain ⟨mf139,x1109,x1110,x1111,x1112⟩:=a
obtain ⟨mf139,rfl,h⟩:=Zl hf139 h
dsimp only at h ⊢
refine Zf ?_
refine jL h (fun x1141=>mkS [(5,.sl (List.map csS r1)),(6,.sl (List.map csS r2)),(7,.sl (List.map (fun y=>[PV.sl (y.map csI)]) r12)),(8,.sl (List.map Edit.cs r1008)),(9,.int .i64 x1109),(10,.int .i64 x1110),(12,.row 12 (1,12)),(13,.row 13 (1,13)),(112,.bool x1141)] [(12,some ((1,12),.row 9 1 false (List.map csS x1111))),(13,some ((1,13),.row 9 1 false (List.map csS x1112)))] 2) (fun k140 h=>?_) fun x1141 h=>?_
refine rg ?_
refine lM csS r1 ?_
refine kS 84 h rfl (fun h=>?_) fun h=>?_
iterate 4 refine Zg rfl (Zf ?_)
refine lM csS r1 ?_
refine kS 95 h rfl (fun h=>?_) fun h=>?_
iterate 13 refine Zg rfl (Zf ?_)
exact jn true h (sR [(12,1,12),(13,1,13)])
refine lM csS r2 ?_
refine kS 101 h rfl (fun h=>?_) fun h=>?_
iterate 9 refine Zg rfl (Zf ?_)
exact jn true h (sR [(12,1,12),(13,1,13)])
refine aI csS h fun e1159 h=>?_
refine aI csS h fun e1160 h=>?_
exact jn (!decide (e1159=e1160)) h (sR [(12,1,12),(13,1,13)])
refine lM csS r2 ?_
refine kS 90 h rfl (fun h=>?_) fun h=>?_
refine lM csS r1 ?_
refine kS 95 h rfl (fun h=>?_) fun h=>?_
iterate 13 refine Zg rfl (Zf ?_)
exact jn true h (sR [(12,1,12),(13,1,13)])
refine lM csS r2 ?_
refine kS 101 h rfl (fun h=>?_) fun h=>?_
iterate 9 refine Zg rfl (Zf ?_)
exact jn true h (sR [(12,1,12),(13,1,13)])
refine aI csS h fun e1161 h=>?_
refine aI csS h fun e1162 h=>?_
exact jn (!decide (e1161=e1162)) h (sR [(12,1,12),(13,1,13)])
iterate 21 refine Zg rfl (Zf ?_)
exact jn false h (sR [(12,1,12),(13,1,13)])
refine cS h rfl (fun h=>?_) fun h=>?_
refine bl ?_
refine jL h (fun x1146=>mkS [(5,.sl (List.map csS r1)),(6,.sl (List.map csS r2)),(7,.sl (List.map (fun y=>[PV.sl (y.map csI)]) r12)),(8,.sl (List.map Edit.cs r1008)),(9,.int .i64 x1109),(10,.int .i64 x1110),(12,.row 12 (1,12)),(13,.row 13 (1,13)),(141,.bool x1146)] [(12,some ((1,12),.row 9 1 false (List.map csS x1111))),(13,some ((1,13),.row 9 1 false (List.map csS x1112)))] 2) (fun k141 h=>?_) fun x1146 h=>?_
refine rg ?_
refine lM csS r2 ?_
refine kS 117 h rfl (fun h=>?_) fun h=>?_
iterate 23 refine Zg rfl (Zf ?_)
exact jn true h (sR [(12,1,12),(13,1,13)])
refine lM csS r1 ?_
refine kS 122 h rfl (fun h=>?_) fun h=>?_
refine aI (fun y=>[PV.sl (y.map csI)]) h fun e1153 h=>?_
refine aI csI h fun e1154 h=>?_
refine aI (fun y=>[PV.sl (y.map csI)]) h fun e1155 h=>?_
refine aI csI h fun e1156 h=>?_
exact jn (decide (e1156<=e1154)) h (sR [(12,1,12),(13,1,13)])
iterate 17 refine Zg rfl (Zf ?_)
exact jn false h (sR [(12,1,12),(13,1,13)])
refine cS h rfl (fun h=>?_) fun h=>?_
refine rg ?_
refine aI csS h fun e1149 h=>?_
refine bM csS ([e1149]:List ByteArray) ?_
refine pR csS h fun l1150 h=>?_
refine rg ?_
exact rn (mf139,(w64 (x1109+1)),x1110,l1150,x1112) h (sR [(12,2,6),(13,1,13)])
refine rg ?_
refine aI csS h fun e1151 h=>?_
refine bM csS ([e1151]:List ByteArray) ?_
refine pR csS h fun l1152 h=>?_
refine rg ?_
exact rn (mf139,x1109,(w64 (x1110+1)),x1111,l1152) h (sR [(12,1,12),(13,2,6)])
refine rg ?_
refine aC h (Zfs _ _ _) fun r1157 h=>?_
refine aC h (Zfs _ _ _) fun r1158 h=>?_
exact rn (mf118,r1158,x1109,x1110) h (sR [])
refine rg ?_
cases h
exact rQ}
def Ziv (p0:State) (p1:ByteArray) (p2:Title) (p3:Int) (p4:Int):Option ((List Edit)×Int):=letk (fun (x3:Bool)=>if x3 then (some ([],2):Option ((List Edit)×Int)) else (ZhM p0 p1 1 p2).bind fun r4=>if (!r4) then (some ([],10):Option ((List Edit)×Int)) else (Zhb p0 p2 p3).bind fun r5=>(Zhb p0 p2 p4).bind fun r6=>(ZbY p0 p2).bind fun r7=>letk (fun (x8:Bool)=>if x8 then (some ([],4):Option ((List Edit)×Int)) else (Zhc r5.1 r6.1).bind fun r9=>(some (r9,0):Option ((List Edit)×Int))) fun k2=>if (!r7.2) then k2 true else if (!r5.2) then k2 true else k2 (!r6.2)) fun k1=>(Za9 p2).bind fun r10=>if (!r10) then k1 true else (Zfo p1).bind fun r11=>k1 (!r11)
theorem ZrM (p0:State) (p1:ByteArray) (p2:Title) (p3:Int) (p4:Int) (r:(List Edit)×Int) (h:Ziv p0 p1 p2 p3 p4=some r):Zb Tryz.prog 21 [p0.pv,.str p1,p2.pv,.int .i64 p3,.int .i64 p4] (.tup [.sl (List.map Edit.cs r.1),.int .i64 r.2]):=by{
refine cF (fun r=>.tup [.sl (List.map Edit.cs r.1),.int .i64 r.2]) h mix Tryz.func21 fun r h=>?_
unfold Ziv at h
refine Zf ?_
refine rg ?_
refine jL h (fun x3=>mkS [(1,.str p1),(3,.int .i64 p3),(4,.int .i64 p4),(5,.ptr 5 (1,5) 0),(7,.ptr 7 (1,7) 0),(25,.bool x3)] [(5,some ((1,5),.box (State.cs p0))),(7,some ((1,7),.box (Title.cs p2)))] 2) (fun k1 h=>?_) fun x3 h=>?_
refine rg ?_
refine aC h (Zbq _) fun r10 h=>?_
refine kS 21 h rfl (fun h=>?_) fun h=>?_
iterate 3 refine Zg rfl (Zf ?_)
exact jn true h (sR [(5,1,0),(7,1,1)])
refine aC h (Zoq _) fun r11 h=>?_
exact jn (!r11) h (sR [(5,1,0),(7,1,1)])
refine cS h rfl (fun h=>?_) fun h=>?_
refine rg ?_
cases h
exact rQ
refine rg ?_
refine aC h (Zoe _ _ _ _) fun r4 h=>?_
refine cS h rfl (fun h=>?_) fun h=>?_
refine rg ?_
cases h
exact rQ
refine rg ?_
refine aC h (Zme _ _ _) fun r5 h=>?_
refine rg ?_
refine aC h (Zme _ _ _) fun r6 h=>?_
refine rg ?_
refine aC h (Zem _ _) fun r7 h=>?_
refine jL h (fun x8=>mkS [(12,.str r5.1),(14,.str r6.1),(60,.bool x8)] [] 2) (fun k2 h=>?_) fun x8 h=>?_
refine rg ?_
refine kS 53 h rfl (fun h=>?_) fun h=>?_
iterate 4 refine Zg rfl (Zf ?_)
exact jn true h (sR [])
refine kS 57 h rfl (fun h=>?_) fun h=>?_
iterate 2 refine Zg rfl (Zf ?_)
exact jn true h (sR [])
exact jn (!r6.2) h (sR [])
refine cS h rfl (fun h=>?_) fun h=>?_
refine rg ?_
cases h
exact rQ
refine rg ?_
refine aC h (ZrL _ _) fun r9 h=>?_
cases h
exact rQ}
theorem ZpV {α:Type} {l:List α} {i:Int} {k:Nat} {x:α} (h0:0<=i) (hk:k<l.length):(ZbF l i x)[k]? = if (k:Int)=i then some x else l[k]?:=by{
unfold ZbF
rw [List.getElem?_set]
by_cases e:(k:Int)=i
rw [if_pos e,if_pos (by omega),if_pos (by omega)]
rw [if_neg e,if_neg (by omega)]}
theorem Znd {α:Type} {l m:List α} (hl:l.length=m.length) (h:∀ k,k<l.length->l[k]? = m[k]?):l=m:=by{
apply List.ext_getElem?
intro k
by_cases hk:k<l.length
exact h k hk
rw [List.getElem?_eq_none (by omega),List.getElem?_eq_none (by omega)]}
theorem Zan2 {α:Type} {l:List α} {k:Nat} {x:α} (h:l[k]? = some x):atI l (k:Int)=some x:=Zed h
theorem Zvn (x y:List ByteArray) (hx:x.length<=1000) (hy:y.length<=1000):Zcw x y=some (Zwq x y):=by{
refine Zad ?_
unfold Zcw
rw [Zn (n:=(x.length:Int)+1),Zn (n:=(y.length:Int)+1),Zn (n:=(x.length:Int)-1),Zn (n:=(y.length:Int)-1)]
refine Za (v:=()) (Zl4 (n:=x.length+1) (by omega) (by omega) (by omega)) ?_
refine Za (v:=()) (Zl4 (n:=y.length+1) (by omega) (by omega) (by omega)) ?_
have hr1:((x.length:Int)+1).toNat=x.length+1:=by omega
have hr2:((y.length:Int)+1).toNat=y.length+1:=by omega
rw [hr1,hr2]
refine Zq (by omega) (by rw [List.length_replicate];omega) fun _ _ _=>?_
refine Zr (fun a:Int×List (List Int)=>(-1<=a.1/\a.1<(x.length:Int))/\a.2.length=x.length+1/\∀ k:Nat,a.1<(k:Int)->k<=x.length->a.2[k]? = some (lrow x y k)) (fun a=>(a.1+1).toNat)
 ⟨⟨by dsimp only;omega,by dsimp only;omega⟩,by dsimp only;rw [Zcp,List.length_replicate],fun k hk hk2=>?_⟩ (by dsimp only;omega) ?_
dsimp only at hk ⊢
rw [ZpV (by omega) (by rw [List.length_replicate];omega),if_pos (by omega)]
refine congrArg some (Znd (by rw [List.length_replicate,Zko]) fun j hj=>?_)
rw [List.length_replicate] at hj
rw [Zgb (by omega),List.getElem?_replicate,if_pos hj,show k=x.length by omega,List.drop_length,Zqs]
rintro ⟨i,T⟩ rec ⟨⟨h1,h2⟩,h3,h4⟩ ih
dsimp only at h1 h2 h3 h4 ⊢
refine Zd (fun hi=>?_) fun hi=>Zc (Znd (by rw [ZnH];exact h3) fun k hk=>by rw [h4 k (by omega) (by omega),Zjz (by omega)])
obtain ⟨p,rfl⟩:∃ p:Nat,i=p:=⟨i.toNat,by omega⟩
refine Za (v:=()) (Zl4 (n:=y.length+1) (by omega) (by omega) (by omega)) ?_
rw [Zn (n:=(p:Int)+1),Zn (n:=(p:Int)-1)]
refine Za (v:=lrow x y (p+1)) (Zan2 (k:=p+1) (h4 (p+1) (by omega) (by omega))) ?_
have hxp:x[p]? = some x[p]:=List.getElem?_eq_getElem (by omega)
refine Zr (fun a:Int×List Int=>(-1<=a.1/\a.1<(y.length:Int))/\a.2.length=y.length+1/\∀ k:Nat,a.1<(k:Int)->k<=y.length->a.2[k]? = some (lcs (x.drop p) (y.drop k))) (fun a=>(a.1+1).toNat) ⟨⟨by dsimp only;omega,by dsimp only;omega⟩,by dsimp only;rw [List.length_replicate],fun k hk hk2=>?_⟩ (by dsimp only;omega) ?_
dsimp only at hk ⊢
rw [List.getElem?_replicate,if_pos (by omega),show k=y.length by omega,List.drop_length,ZnF]
rintro ⟨j,row⟩ rec2 ⟨⟨g1,g2⟩,g3,g4⟩ ih2
dsimp only at g1 g2 g3 g4 ⊢
refine Zd (fun hj=>?_) fun hj=>?_
obtain ⟨q,rfl⟩:∃ q:Nat,j=q:=⟨j.toNat,by omega⟩
rw [Zn (n:=(q:Int)+1),Zn (n:=(q:Int)-1)]
have hyq:y[q]? = some y[q]:=List.getElem?_eq_getElem (by omega)
have hl:=ZnG x[p] y[q] (x.drop (p+1)) (y.drop (q+1))
rw [<- ZaA hxp,<- ZaA hyq] at hl
refine Zw (fun k=>Tot (k (ZbF row (q:Int) (lcs (x.drop p) (y.drop q)))) fun T=>T=Zwq x y) (ih2 _ ⟨⟨by dsimp only;omega,by dsimp only;omega⟩,by dsimp only;rw [Zcp];exact g3,fun k hk hk2=>?_⟩ (by dsimp only;omega)) fun k hk=>?_
dsimp only at hk ⊢
rw [ZpV (by omega) (by omega)]
by_cases e:k=q
rw [if_pos (by omega),e]
rw [if_neg (by omega)]
exact g4 k (by omega) hk2
refine Za (Zan2 hxp) (Za (Zan2 hyq) (Zd (fun e=>?_) fun e=>?_))
rw [if_pos e] at hl
refine Za (v:=lcs (x.drop (p+1)) (y.drop (q+1))) (Zan2 (k:=q+1) (Zgb (by omega))) ?_
refine Zq (by omega) (by omega) fun _ _ _=>?_
have hb:=ZxT (x.drop (p+1)) (y.drop (q+1))
rw [List.length_drop] at hb
rw [IntKind.wrap_i32,show (lcs (x.drop (p+1)) (y.drop (q+1))+1+2147483648) % 4294967296-2147483648=lcs (x.drop p) (y.drop q) by omega]
exact hk
rw [if_neg e] at hl
refine Za (v:=lcs (x.drop (p+1)) (y.drop q)) (Zan2 (Zgb (by omega))) ?_
refine Za (v:=lcs (x.drop p) (y.drop (q+1))) (Zan2 (k:=q+1) (g4 (q+1) (by omega) (by omega))) ?_
refine Zq (by omega) (by omega) fun _ _ _=>?_
rw [show (if lcs (x.drop p) (y.drop (q+1)) > lcs (x.drop (p+1)) (y.drop q) then lcs (x.drop p) (y.drop (q+1)) else lcs (x.drop (p+1)) (y.drop q))=lcs (x.drop p) (y.drop q) by split<;>omega]
exact hk
refine Zq hi (by omega) fun _ _ _=>?_
refine ih _ ⟨⟨by dsimp only;omega,by dsimp only;omega⟩,by dsimp only;rw [Zcp];exact h3,fun k hk hk2=>?_⟩ (by dsimp only;omega)
dsimp only at hk ⊢
rw [ZpV (by omega) (by omega)]
by_cases e:k=p
rw [if_pos (by omega),e]
exact congrArg some (Znd (by rw [Zko];exact g3) fun j' hj'=>by rw [g4 j' (by omega) (by omega),Zgb (by omega)])
rw [if_neg (by omega)]
exact h4 k (by omega) hk2}
def Zvo (a b:ByteArray):List Edit:=if a=b then Zb6 [] 1 (lns a) else if 1000<(lns a).length\/1000<(lns b).length then Zb6 (Zb6 [] 2 (lns a)) 3 (lns b) else scr (lns a) (lns b) [] [] [] []
theorem ZiA {x y:List ByteArray} {i j:Nat} {a b:ByteArray} (hx:x[i]? = some a) (hy:y[j]? = some b):heads (x.drop i) (y.drop j)=decide (a=b):=by
 rw [ZaA hx,ZaA hy]
 rfl
theorem Zch {x y:List ByteArray} {i j:Nat} (h:x.length<=i\/y.length<=j):heads (x.drop i) (y.drop j)=false:=by{
rcases h with h | h
rw [List.drop_eq_nil_of_le h];rfl
rw [List.drop_eq_nil_of_le h]
cases x.drop i<;>rfl}
theorem ZyZ (a b:ByteArray) (ha:a.size<=100000) (hb:b.size<=100000):ZcU a b=some (Zvo a b):=by{
refine Zad ?_
unfold ZcU
refine Za (ZmF a (by omega)) ?_
refine Za (ZmF b (by omega)) ?_
refine Zd (fun e=>?_) fun e=>?_
refine Za (Zyh _ 1 (lns a) (by simp)) (Zc ?_)
unfold Zvo
rw [if_pos e]
rfl
unfold Zvo
rw [if_neg e]
generalize lns a=x
generalize lns b=y
refine Zw (fun k=>(1000<x.length\/1000<y.length->Tot (k true) fun l=>l=if 1000<x.length\/1000<y.length then Zb6 (Zb6 [] 2 x) 3 y else scr x y [] [] [] [])/\(x.length<=1000->y.length<=1000->Tot (k false) fun l=>l=if 1000<x.length\/1000<y.length then Zb6 (Zb6 [] 2 x) 3 y else scr x y [] [] [] [])) ⟨fun hor=>?_,fun hx hy=>?_⟩ fun k hk=>?_
refine ZH rfl ?_
refine Za (Zyh _ 2 x (by simp)) ?_
change Tot ((ZU (⟨Zb6 [] 2 x,[],[],[]⟩:Script) 3 y).bind _) _
have h1:=ZaQ [] 2 x
simp at h1
refine Za (Zyh _ 3 y (by dsimp only;omega)) (Zc ?_)
rw [if_pos hor]
rfl
refine Zs rfl ?_
rw [if_neg (by omega)]
refine Za (Zvn x y hx hy) ?_
refine Zr (fun a:Int×Int×List Edit×List ByteArray×List ByteArray×List ByteArray=>∃ i j:Nat,a.1=i/\a.2.1=j/\i<=x.length/\j<=y.length/\(a.2.2.1.length<=3 * (i+j)/\a.2.2.2.1.length<=i/\a.2.2.2.2.1.length<=j/\a.2.2.2.2.2.length<=i)/\scr x y [] [] [] []=scr (x.drop i) (y.drop j) a.2.2.1 a.2.2.2.2.2 a.2.2.2.1 a.2.2.2.2.1) (fun a=>((x.length:Int)-a.1).toNat+((y.length:Int)-a.2.1).toNat) ⟨0,0,rfl,rfl,Nat.zero_le _,Nat.zero_le _,⟨by simp,by simp,by simp,by simp⟩,rfl⟩ (by dsimp only;omega) ?_
rintro ⟨ii,jj,ed,dl,is,kp⟩ rec ⟨i,j,e1,e2,hi,hj,⟨l1,l2,l3,l4⟩,hS⟩ ih
dsimp only at e1 e2 hS l1 l2 l3 l4
subst e1 e2
have w1:∀ n:Nat,n<=1000->w64 ((n:Int)+1)=(n:Int)+1:=fun n hn=>Zn
refine Zw (fun k=>(i<x.length\/j<y.length->Tot (k true) fun l=>l=scr x y [] [] [] [])/\(i=x.length->j=y.length->Tot (k false) fun l=>l=scr x y [] [] [] [])) ⟨fun hor=>?_,fun hxe hye=>?_⟩ fun k hk=>?_
refine ZH rfl ?_
refine Zw (fun k=>(heads (x.drop i) (y.drop j)=true->Tot (k true) fun l=>l=scr x y [] [] [] [])/\(heads (x.drop i) (y.drop j)=false->Tot (k false) fun l=>l=scr x y [] [] [] [])) ⟨fun hh=>?_,fun hh=>?_⟩ fun k hk=>?_
refine ZH rfl ?_
refine Za (Zkf _ (by dsimp only;omega)) ?_
have h1:i<x.length:=by
 by_cases h:i<x.length
 exact h
 rw [Zch (.inl (by omega))] at hh;cases hh
have h2:j<y.length:=by
 by_cases h:j<y.length
 exact h
 rw [Zch (.inr (by omega))] at hh;cases hh
have hx1:x[i]? = some x[i]:=List.getElem?_eq_getElem h1
have hy1:y[j]? = some y[j]:=List.getElem?_eq_getElem h2
rw [ZiA hx1 hy1] at hh
have hxy:=of_decide_eq_true hh
rw [ZaA hx1,ZaA hy1,Zm6,if_pos hxy] at hS
refine Za (Zan2 hx1) ?_
refine ZC 2000 (by simp;omega) (by decide) (by decide) ?_
rw [w1 i (by omega),w1 j (by omega)]
have a1:=ZaQ (Zb6 ed 2 dl) 3 is
have a2:=ZaQ ed 2 dl
exact ih _ ⟨i+1,j+1,by dsimp only;omega,by dsimp only;omega,h1,h2,⟨by dsimp only;omega,by simp,by simp,by simp;omega⟩,hS⟩ (by dsimp only;omega)
refine Zs rfl ?_
rw [ZqU (x.drop i) (y.drop j) ed kp dl is hh] at hS
have a1:=ZaQ ed 1 kp
refine Zw (fun k=>(∀ (h1:i<x.length),(j=y.length\/∃ h2:j<y.length,lcs (x.drop i) (y.drop (j+1))<=lcs (x.drop (i+1)) (y.drop j))->Tot (k true) fun l=>l=scr x y [] [] [] [])/\(∀ (h2:j<y.length),(i=x.length\/∃ h1:i<x.length,¬ lcs (x.drop i) (y.drop (j+1))<=lcs (x.drop (i+1)) (y.drop j))->Tot (k false) fun l=>l=scr x y [] [] [] [])) ⟨fun h1 hc=>?_,fun h2 hc=>?_⟩ fun k hk=>?_
refine ZH rfl ?_
refine Za (Zl5 _ (by dsimp only;omega)) ?_
have hx1:x[i]? = some x[i]:=List.getElem?_eq_getElem h1
refine Za (Zan2 hx1) ?_
refine ZC 2000 (by simp;omega) (by decide) (by decide) ?_
rw [w1 i (by omega)]
refine ih _ ⟨i+1,j,by dsimp only;omega,rfl,h1,hj,⟨by dsimp only;omega,by simp;omega,by dsimp only;omega,by simp⟩,?_⟩ (by dsimp only;omega)
dsimp only
rw [hS]
exact Zs7 hx1 hh hc
refine Zs rfl ?_
refine Za (Zl5 _ (by dsimp only;omega)) ?_
have hy1:y[j]? = some y[j]:=List.getElem?_eq_getElem h2
refine Za (Zan2 hy1) ?_
refine ZC 2000 (by simp;omega) (by decide) (by decide) ?_
rw [w1 j (by omega)]
refine ih _ ⟨i,j+1,rfl,by dsimp only;omega,hi,h2,⟨by dsimp only;omega,by dsimp only;omega,by simp;omega,by simp⟩,?_⟩ (by dsimp only;omega)
dsimp only
rw [hS]
exact Zs8 hy1 hh hc
refine Zd (fun hje=>hk.1 (by omega) (.inl (by omega))) fun hje=>?_
refine Zd (fun hlt=>?_) fun hlt=>hk.2 (by omega) (.inl (by omega))
rw [w1 i (by omega)]
refine Za (Zan2 (k:=i+1) (Zjz (by omega))) ?_
refine Za (Zan2 (Zgb (by omega))) ?_
refine Za (Zan2 (Zjz (by omega))) ?_
rw [w1 j (by omega)]
refine Za (Zan2 (k:=j+1) (Zgb (by omega))) ?_
by_cases hd:lcs (x.drop i) (y.drop (j+1))<=lcs (x.drop (i+1)) (y.drop j)
rw [decide_eq_true hd]
exact hk.1 (by omega) (.inr ⟨by omega,hd⟩)
rw [decide_eq_false hd]
exact hk.2 (by omega) (.inr ⟨by omega,hd⟩)
refine Zd (fun h1=>?_) fun h1=>hk.2 (Zch (.inl (by omega)))
refine Zd (fun h2=>?_) fun h2=>hk.2 (Zch (.inr (by omega)))
refine Zq (by omega) h1 fun u _ hu=>?_
refine Zq (by omega) h2 fun v _ hv=>?_
rw [Int.toNat_natCast] at hu hv
have hh:=ZiA hu hv
by_cases huv:u=v
rw [decide_eq_true huv] at hh ⊢
exact hk.1 hh
rw [decide_eq_false huv] at hh ⊢
exact hk.2 hh
refine Zs rfl ?_
refine Za (Zl5 _ (by dsimp only;omega)) ?_
have a1:=ZaQ ed 1 kp
refine Za (Zkf _ (by dsimp only;omega)) (Zc ?_)
rw [hS,hxe,hye,List.drop_length,List.drop_length,ZhQ]
refine Zd (fun h=>hk.1 (.inl (by omega))) fun h=>?_
by_cases h2:(j:Int)<(y.length:Int)
rw [decide_eq_true h2]
exact hk.1 (.inr (by omega))
rw [decide_eq_false h2]
exact hk.2 (by omega) (by omega)
refine Zd (fun h=>hk.1 (.inl (by omega))) fun h1=>?_
by_cases h2:1000<(y.length:Int)
rw [decide_eq_true h2]
exact hk.1 (.inr (by omega))
rw [decide_eq_false h2]
exact hk.2 (by omega) (by omega)}
theorem Zhg (E:List Edit) (k:Int) (L:List ByteArray) (h:E.length<=1000000) (hL:L.length<=1000000):Ze7 E k L=some (Zb6 E k L):=by{
refine Zad ?_
unfold Ze7
refine Zd (fun h0=>Zc ?_) fun h0=>?_
rw [List.eq_nil_of_length_eq_zero (show L.length=0 by omega)];rfl
refine ZC 1000000 (by simp;omega) (by decide) (by decide) ?_
refine ZC 1000000 (by simp;omega) (by decide) (by decide) ?_
refine ZC 1000001 (by simp;omega) (by decide) (by decide) (Zc ?_)
unfold Zb6
rw [if_neg (by intro e;rw [e] at h0;exact h0 rfl)]
simp}
theorem Zvs {α:Type} {l:List α} {i j:Nat} {a:α} (hij:i<=j) (h:l[j]? = some a):(l.drop i).take (j-i) ++ [a]=(l.drop i).take (j+1-i):=by
 rw [show j+1-i=(j-i)+1 by omega,List.take_add_one,List.getElem?_drop,show i+(j-i)=j by omega,h]
 rfl
theorem Zto (a b:ByteArray) (ha:a.size<=100000) (hb:b.size<=100000):Zhc a b=some (Zvo a b):=by{
have hla:=ZmQ a
have hlb:=ZmQ b
refine Zad ?_
unfold Zhc
refine Za (Zl0 a (by omega)) ?_
refine Za (Zl0 b (by omega)) ?_
by_cases hbig:1000<(lns a).length\/1000<(lns b).length
refine Zw (fun k=>Tot (k true) fun r=>r=Zvo a b) ?_ fun k hk=>Zd (fun _=>hk) fun h=>?_
refine ZH rfl (Zd (fun e=>?_) fun e=>?_)
refine Za (Zhg [] 1 (lns a) (by simp) (by omega)) (Zc ?_)
unfold Zvo
rw [if_pos e]
refine Za (Zhg [] 2 (lns a) (by simp) (by omega)) ?_
have h1:=ZaQ [] 2 (lns a)
simp at h1
refine Za (Zhg _ 3 (lns b) (by omega) (by omega)) (Zc ?_)
unfold Zvo
rw [if_neg e,if_pos hbig]
rw [decide_eq_true (by omega)]
exact hk
have hd:Zvo a b=scr (lns a) (lns b) [] [] [] []:=by
 unfold Zvo
 by_cases e:a=b
 rw [if_pos e,e,ZqT];rfl
 rw [if_neg e,if_neg hbig]
rw [hd]
generalize lns a=x at *
generalize lns b=y at *
refine Zw (fun k=>Tot (k false) fun r=>r=scr x y [] [] [] []) ?_ fun k hk=>Zd (fun h=>by omega) fun _=>by rw [decide_eq_false (by omega)];exact hk
refine Zs rfl ?_
refine Za (v:=Zwq x y) (by unfold Zg8;rw [if_pos (by omega)]) ?_
have w1:∀ n:Nat,n<=1001->w64 ((n:Int)+1)=(n:Int)+1:=fun n hn=>Zn
refine Zr (fun s:List Edit×Int×Int=>∃ i j:Nat,s.2.1=i/\s.2.2=j/\i<=x.length/\j<=y.length/\s.1.length<=3 * (i+j)/\scr x y [] [] [] []=scr (x.drop i) (y.drop j) s.1 [] [] []) (fun s=>(x.length-s.2.1.toNat)+(y.length-s.2.2.toNat)) ⟨0,0,rfl,rfl,Nat.zero_le _,Nat.zero_le _,by simp,rfl⟩ (by dsimp only;omega) ?_
rintro ⟨E,ii,jj⟩ rec ⟨i0,j0,e1,e2,hi,hj,hE,hS⟩ ih
dsimp only at e1 e2 hE hS
subst e1 e2
refine Zw (fun k=>(i0<x.length\/j0<y.length->Tot (k true) fun r=>r=scr x y [] [] [] [])/\(i0=x.length->j0=y.length->Tot (k false) fun r=>r=scr x y [] [] [] [])) ⟨fun hor=>?_,fun hx hy=>?_⟩ fun k hk=>?_
refine ZH rfl ?_
refine Zr (fun s:Int×Int=>∃ i j:Nat,s.1=i/\s.2=j/\i<=x.length/\j<=y.length/\i0<=i/\j0<=j/\scr x y [] [] [] []=scr (x.drop i) (y.drop j) E ((x.drop i0).take (i-i0)) [] []) (fun s=>x.length-s.1.toNat) ⟨i0,j0,rfl,rfl,hi,hj,Nat.le_refl _,Nat.le_refl _,by rw [Nat.sub_self,List.take_zero];exact hS⟩ (by dsimp only;omega) ?_
rintro ⟨ii,jj⟩ rec2 ⟨i,j,e1,e2,hi2,hj2,hi3,hj3,hS2⟩ ih2
dsimp only at e1 e2 hS2
subst e1 e2
refine Zw (fun k=>(heads (x.drop i) (y.drop j)=true->Tot (k true) fun r=>r=scr x y [] [] [] [])/\(heads (x.drop i) (y.drop j)=false->Tot (k false) fun r=>r=scr x y [] [] [] [])) ⟨fun hh=>?_,fun hh=>?_⟩ fun k hk=>?_
refine ZH rfl ?_
have h1:i<x.length:=by
 by_cases h:i<x.length
 exact h
 rw [Zch (.inl (by omega))] at hh;cases hh
have h2:j<y.length:=by
 by_cases h:j<y.length
 exact h
 rw [Zch (.inr (by omega))] at hh;cases hh
have hx1:x[i]? = some x[i]:=List.getElem?_eq_getElem h1
have hy1:y[j]? = some y[j]:=List.getElem?_eq_getElem h2
rw [ZiA hx1 hy1] at hh
have hxy:=of_decide_eq_true hh
rw [ZaA hx1,ZaA hy1,Zm6,if_pos hxy,Zvs hi3 hx1] at hS2
rw [w1 i (by omega),w1 j (by omega)]
exact ih2 _ ⟨i+1,j+1,by dsimp only;omega,by dsimp only;omega,h1,h2,by omega,by omega,hS2⟩ (by dsimp only;omega)
refine Zs rfl ?_
refine ZiB (by omega) (by omega) (by omega) fun K hK _=>?_
have hK:K=(x.drop i0).take (i-i0):=by rw [hK];simp
rw [<- hK] at hS2
have hKl:K.length<=1001:=by rw [hK,List.length_take,List.length_drop];omega
refine Za (Zhg E 1 K (by omega) (by omega)) ?_
rw [ZqU _ _ _ _ _ _ hh] at hS2
have a0:=ZaQ E 1 K
have aK:i=i0->Zb6 E 1 K=E:=fun e=>by
 rw [hK,e,Nat.sub_self,List.take_zero];rfl
have aL:(Zb6 E 1 K).length<=3 * (i0+j0)+(if i=i0 then 0 else 1):=by
 split
 rename_i e;rw [aK e];omega
 omega
generalize Zb6 E 1 K=E1 at *
refine Zr (fun s:Int×Int×List ByteArray×List ByteArray=>∃ p q:Nat,s.1=p/\s.2.1=q/\p<=x.length/\q<=y.length/\i<=p/\j<=q/\(i0+j0<p+q\/heads (x.drop p) (y.drop q)=false)/\(s.2.2.1.length<=p/\s.2.2.2.length<=q)/\scr x y [] [] [] []=scr (x.drop p) (y.drop q) E1 [] s.2.2.1 s.2.2.2) (fun s=>(x.length-s.1.toNat)+(y.length-s.2.1.toNat)) ⟨i,j,rfl,rfl,hi2,hj2,Nat.le_refl _,Nat.le_refl _,.inr hh,⟨by simp,by simp⟩,hS2⟩ (by dsimp only;omega) ?_
rintro ⟨ii,jj,D,I⟩ rec3 ⟨p,q,e1,e2,hp,hq,hp2,hq2,hpr,⟨hD,hI⟩,hS3⟩ ih3
dsimp only at e1 e2 hD hI hS3
subst e1 e2
refine Zw (fun k=>((p<x.length\/q<y.length)->heads (x.drop p) (y.drop q)=false->Tot (k true) fun r=>r=scr x y [] [] [] [])/\(heads (x.drop p) (y.drop q)=true\/(p=x.length/\q=y.length)->Tot (k false) fun r=>r=scr x y [] [] [] [])) ⟨fun hor3 hh3=>?_,fun hh3=>?_⟩ fun k hk=>?_
refine ZH rfl ?_
refine Zw (fun k=>(∀ (h1:p<x.length),(q=y.length\/∃ h2:q<y.length,lcs (x.drop p) (y.drop (q+1))<=lcs (x.drop (p+1)) (y.drop q))->Tot (k true) fun l=>l=scr x y [] [] [] [])/\(∀ (h2:q<y.length),(p=x.length\/∃ h1:p<x.length,¬ lcs (x.drop p) (y.drop (q+1))<=lcs (x.drop (p+1)) (y.drop q))->Tot (k false) fun l=>l=scr x y [] [] [] [])) ⟨fun h1 hc=>?_,fun h2 hc=>?_⟩ fun k hk=>?_
refine ZH rfl ?_
have hx1:x[p]? = some x[p]:=List.getElem?_eq_getElem h1
refine Za (Zan2 hx1) ?_
refine ZC 2010 (by simp;omega) (by decide) (by decide) ?_
rw [w1 p (by omega)]
refine ih3 _ ⟨p+1,q,by dsimp only;omega,rfl,h1,hq,by omega,hq2,.inl (by omega),⟨by simp;omega,by dsimp only;omega⟩,?_⟩ (by dsimp only;omega)
dsimp only
rw [hS3]
exact Zs7 hx1 hh3 hc
refine Zs rfl ?_
have hy1:y[q]? = some y[q]:=List.getElem?_eq_getElem h2
refine Za (Zan2 hy1) ?_
refine ZC 2010 (by simp;omega) (by decide) (by decide) ?_
rw [w1 q (by omega)]
refine ih3 _ ⟨p,q+1,rfl,by dsimp only;omega,hp,h2,hp2,by omega,.inl (by omega),⟨by dsimp only;omega,by simp;omega⟩,?_⟩ (by dsimp only;omega)
dsimp only
rw [hS3]
exact Zs8 hy1 hh3 hc
refine Zd (fun hje=>hk.1 (by omega) (.inl (by omega))) fun hje=>?_
refine Zd (fun hlt=>?_) fun hlt=>hk.2 (by omega) (.inl (by omega))
rw [w1 p (by omega)]
refine Za (Zan2 (k:=p+1) (Zjz (by omega))) ?_
refine Za (Zan2 (Zgb (by omega))) ?_
refine Za (Zan2 (Zjz (by omega))) ?_
rw [w1 q (by omega)]
refine Za (Zan2 (k:=q+1) (Zgb (by omega))) ?_
by_cases hd:lcs (x.drop p) (y.drop (q+1))<=lcs (x.drop (p+1)) (y.drop q)
rw [decide_eq_true hd]
exact hk.1 (by omega) (.inr ⟨by omega,hd⟩)
rw [decide_eq_false hd]
exact hk.2 (by omega) (.inr ⟨by omega,hd⟩)
refine Zs rfl ?_
refine Za (Zhg E1 2 D (by omega) (by omega)) ?_
have a1:=ZaQ E1 2 D
refine Za (Zhg _ 3 I (by omega) (by omega)) ?_
have a2:=ZaQ (Zb6 E1 2 D) 3 I
have hgo:i0+j0<p+q:=by
 rcases hpr with h | h
 exact h
 rcases hh3 with h3 | ⟨h3,h4⟩
 rw [h] at h3;cases h3
 omega
refine ih _ ⟨p,q,rfl,rfl,hp,hq,?_,?_⟩ (by dsimp only;omega)
dsimp only
split at aL<;>omega
dsimp only
rw [hS3]
refine Zu5 _ _ _ _ _ (hh3.imp id fun ⟨h3,h4⟩=>⟨by rw [h3,List.drop_length],by rw [h4,List.drop_length]⟩)
by_cases hp1:p<x.length
refine Zd (fun _=>?_) fun h=>by omega
refine Zd (fun h=>by omega) fun _=>?_
refine Zd (fun h=>hk.1 (.inl hp1) (Zch (.inr (by omega)))) fun h=>?_
refine Zq (by omega) (by omega) fun u _ hu=>?_
refine Zq (by omega) (by omega) fun v _ hv=>?_
rw [Int.toNat_natCast] at hu hv
have hh:=ZiA hu hv
by_cases huv:u=v
rw [decide_eq_true huv] at hh ⊢
exact hk.2 (.inl hh)
rw [decide_eq_false huv] at hh ⊢
exact hk.1 (.inl hp1) hh
refine Zd (fun h=>by omega) fun _=>?_
refine Zd (fun h2=>Zd (fun _=>hk.1 (.inr (by omega)) (Zch (.inl (by omega)))) fun h=>by omega) fun h2=>hk.2 (.inr ⟨by omega,by omega⟩)
refine Zd (fun h1=>?_) fun h1=>hk.2 (Zch (.inl (by omega)))
refine Zd (fun h2=>?_) fun h2=>hk.2 (Zch (.inr (by omega)))
refine Zq (by omega) h1 fun u _ hu=>?_
refine Zq (by omega) h2 fun v _ hv=>?_
rw [Int.toNat_natCast] at hu hv
have hh:=ZiA hu hv
by_cases huv:u=v
rw [decide_eq_true huv] at hh ⊢
exact hk.1 hh
rw [decide_eq_false huv] at hh ⊢
exact hk.2 hh
refine Zs rfl (Zc ?_)
rw [hS,hx,hy,List.drop_length,List.drop_length,ZhQ]
rfl
refine Zd (fun h=>hk.1 (.inl (by omega))) fun h=>?_
by_cases h2:(j0:Int)<(y.length:Int)
rw [decide_eq_true h2]
exact hk.1 (.inr (by omega))
rw [decide_eq_false h2]
exact hk.2 (by omega) (by omega)}
section
variable {α:Type}
def Zt4 (p0:List α) (p1 p2 p3:Int):Option (List α):=ZE Zaq (fun f ((i,d):Int×List α)=>if (decide (i<p3)) then (atI d (w64 (p2+i))).bind fun x=>(atI d (w64 (p1+i))).bind fun y=>(atI d (w64 (p1+i))).bind fun _=>(atI (ZbF d (w64 (p1+i)) x) (w64 (p2+i))).bind fun _=>f ((w64 (i+1)),(ZbF (ZbF d (w64 (p1+i)) x) (w64 (p2+i)) y)) else (some d:Option (List α))) (0,p0)
theorem Zqp (A X M Y B:List α) {n:Nat} (hx:X.length=n) (hy:Y.length=n) (hs:(A++(X++(M++(Y++B)))).length<=1000000) {a b c:Int} (ha:a=(A.length:Int)) (hb:b=(A.length:Int)+n+M.length) (hc:c=(n:Int)) :
  Tot (Zt4 (A++(X++(M++(Y++B)))) a b c) fun r=>r=A++(Y++(M++(X++B))):=by{
simp only [List.length_append] at hs
unfold Zt4
refine Zr (fun q:Int×List α=>∃ X1 X2 Y1 Y2,X=X1++X2/\Y=Y1++Y2/\Y1.length=X1.length/\q.1=(X1.length:Int)/\q.2=A++(Y1++(X2++(M++(X1++(Y2++B)))))) (fun q=>(c-q.1).toNat) ⟨[],X,[],Y,rfl,rfl,rfl,rfl,rfl⟩ (by dsimp only;omega) ?_
rintro ⟨i,d⟩ rec ⟨X1,X2,Y1,Y2,e1,e2,e3,e4,e5⟩ ih
dsimp only at e4 e5 ⊢
subst e4 e5
have l1:X1.length+X2.length=n:=by rw [<- hx,e1,List.length_append]
have l2:Y1.length+Y2.length=n:=by rw [<- hy,e2,List.length_append]
refine Zd (fun h=>?_) fun h=>?_
cases X2 with
| nil=>simp at l1;omega
| cons x X2=>
  cases Y2 with
  | nil=>simp at l2;omega
  | cons y Y2=>
    simp only [List.length_cons] at l1 l2
    have ea:w64 (a+(X1.length:Int))=((A++Y1).length:Int):=(Zn).trans (by rw [List.length_append];omega)
    have eb:w64 (b+(X1.length:Int))=((A++Y1).length:Int)+1+((X2++(M++X1)).length:Int):=(Zn).trans (by simp only [List.length_append];omega)
    have ed:A++(Y1++(x::X2++(M++(X1++(y::Y2++B)))))=(A++Y1)++x::((X2++(M++X1))++y::(Y2++B)):=by simp
    rw [ed]
    refine Za (v:=y) (ZmG (A++Y1) (X2++(M++X1)) (Y2++B) x y eb) ?_
    refine Za (v:=x) (Zb9 _ _ _ ea) ?_
    refine Za (v:=x) (Zb9 _ _ _ ea) ?_
    refine Za (v:=y) (by rw [ZeO _ _ _ _ ea];exact ZmG _ _ _ _ _ eb) ?_
    rw [ZqB _ _ _ _ _ ea eb]
    refine ih _ ⟨X1 ++ [x],X2,Y1 ++ [y],Y2,by simp [e1],by simp [e2],by simp [e3],?_,by simp⟩ ?_
    exact (Zn).trans (by simp)
    dsimp only
    rw [Zn]
    omega
have h1:X2 = []:=List.length_eq_zero_iff.1 (by omega)
have h2:Y2 = []:=List.length_eq_zero_iff.1 (by omega)
subst h1 h2
simp only [List.append_nil] at e1 e2
subst e1 e2
exact Zc rfl}
def Zz4 (p0:List α) (p1 p2 p3:Int):Option (List α):=ZE Zaq (fun f ((i,j,d):Int×Int×List α)=>if (!decide (i=j)) then if (decide (j<i)) then (Zt4 d (w64 (p2-i)) p2 j).bind fun r=>f ((w64 (i-j)),j,r) else (Zt4 d (w64 (p2-i)) (w64 ((w64 (p2+j))-i)) i).bind fun r=>f (i,(w64 (j-i)),r) else (Zt4 d (w64 (p2-i)) p2 i).bind fun r=>(some r:Option (List α))) ((w64 (p2-p1)),(w64 (p3-p2)),p0)
theorem Zzo (A U V B:List α) (hU:U≠[]) (hV:V≠[]) (hs:(A++(U++(V++B))).length<=1000000) {a m b:Int} (ha:a=(A.length:Int)) (hm:m=(A.length:Int)+U.length) (hb:b=(A.length:Int)+U.length+V.length) :
  Tot (Zz4 (A++(U++(V++B))) a m b) fun r=>r=A++(V++(U++B)):=by{
simp only [List.length_append] at hs
have u1:0<U.length:=List.length_pos_iff.2 hU
have v1:0<V.length:=List.length_pos_iff.2 hV
unfold Zz4
rw [Zn,Zn]
refine Zr (fun q:Int×Int×List α=>∃ L U' V' R,q.1=(U'.length:Int)/\q.2.1=(V'.length:Int)/\0<U'.length/\0<V'.length/\q.2.2=A++(L++(U'++(V'++(R++B))))/\L++(V'++(U'++R))=V++U/\(L.length:Int)+U'.length=U.length) (fun q=>(q.1+q.2.1).toNat)
 ⟨[],U,V,[],by dsimp only;omega,by dsimp only;omega,u1,v1,rfl,by simp,by simp⟩ (by dsimp only;omega) ?_
rintro ⟨i,j,d⟩ rec ⟨L,U',V',R,e1,e2,p1,p2,e3,e4,e5⟩ ih
dsimp only at e1 e2 e3 ⊢
subst e1 e2 e3
have hl:L.length+V'.length+U'.length+R.length=V.length+U.length:=by
 have:=congrArg List.length e4
 simp only [List.length_append] at this
 omega
refine Zak (fun h=>?_) fun h=>?_
refine Zd (fun hlt=>?_) fun hlt=>?_
obtain ⟨U1,U2,c1,c2⟩:=Zkx U' V'.length (by omega)
have hu2:U1.length+U2.length=U'.length:=by rw [c1,List.length_append]
refine Zh (Q:=fun r=>r=(A++L)++(V'++(U2++(U1++(R++B))))) ?_ fun r hr=>?_
have:=Zqp (A++L) U1 U2 V' (R++B) (n:=V'.length) c2 rfl (by simp only [List.length_append];omega) (a:=w64 (m-(U'.length:Int))) (b:=m) (c:=(V'.length:Int)) ((Zn).trans (by rw [List.length_append];omega)) (by rw [List.length_append];omega) rfl
rw [c1]
rw [show A++(L++((U1++U2)++(V'++(R++B))))=(A++L)++(U1++(U2++(V'++(R++B)))) by simp]
rw [<- c1]
exact this
subst hr
refine ih _ ⟨L++V',U2,U1,R,?_,?_,by omega,by omega,by simp,?_,?_⟩ ?_
exact (Zn).trans (by omega)
dsimp only
omega
rw [<- e4,c1]
simp
rw [List.length_append]
omega
dsimp only
rw [Zn]
omega
obtain ⟨V1,V2,c1,c2⟩:=Zkx V' (V'.length-U'.length) (by omega)
have hv2:V1.length+V2.length=V'.length:=by rw [c1,List.length_append]
refine Zh (Q:=fun r=>r=(A++L)++(V2++(V1++(U'++(R++B))))) ?_ fun r hr=>?_
have:=Zqp (A++L) U' V1 V2 (R++B) (n:=U'.length) rfl (by omega) (by simp only [List.length_append];omega) (a:=w64 (m-(U'.length:Int))) (b:=w64 (w64 (m+(V'.length:Int))-(U'.length:Int))) (c:=(U'.length:Int)) ((Zn).trans (by rw [List.length_append];omega)) (by
 rw [Zn (n:=m+(V'.length:Int)),Zn,List.length_append]
 omega) rfl
rw [c1]
rw [show A++(L++(U'++((V1++V2)++(R++B))))=(A++L)++(U'++(V1++(V2++(R++B)))) by simp]
rw [<- c1]
exact this
subst hr
refine ih _ ⟨L,V2,V1,U'++R,?_,?_,by omega,by omega,by simp,?_,?_⟩ ?_
dsimp only
omega
exact (Zn).trans (by omega)
rw [<- e4,c1]
simp
omega
dsimp only
rw [Zn]
omega
refine Zh (Zqp (A++L) U' [] V' (R++B) (n:=U'.length) rfl (by omega) (by simp only [List.length_append,List.length_nil];omega) (a:=w64 (m-(U'.length:Int))) (b:=m) (c:=(U'.length:Int)) ((Zn).trans (by rw [List.length_append];omega)) (by rw [List.length_append,List.length_nil];omega) rfl |> fun t=>by
 rw [show A++(L++(U'++(V'++(R++B))))=(A++L)++(U'++([]++(V'++(R++B)))) by simp]
 exact t) fun r hr=>?_
refine Zc ?_
rw [hr]
have:A++((L++(V'++(U'++R)))++B)=A++((V++U)++B):=by rw [e4]
simpa using this}
end
end
end Go.Proofs.YtpdaeclbndpabaaGreatDoor
set_option linter.unusedSimpArgs false
namespace Go.Proofs.YtpdaeclbndpabaaGreatDoor
section
open VL
section
variable {α:Type}
def Zo5 (cmp:α->α->Option Int) (lt:α->α->Bool):Prop:=∀ a b,Tot (cmp a b) fun r=>decide (r<0)=lt a b
def Zzs (cmp:α->α->Option Int) (p0:List α) (p1 p2:Int):Option (List α):=ZE Zaq (fun f ((i,d):Int×List α)=>if (decide (i<p2)) then ZE Zaq (fun g ((j,d):Int×List α)=>letk (fun (x:Bool)=>if x then (atI d (w64 (j-1))).bind fun u=>(atI d j).bind fun v=>(atI d j).bind fun _=>(atI (ZbF d j u) (w64 (j-1))).bind fun _=>g ((w64 (j-1)),(ZbF (ZbF d j u) (w64 (j-1)) v)) else f ((w64 (i+1)),d)) fun k=>if (decide (p1<j)) then (atI d j).bind fun v=>(atI d (w64 (j-1))).bind fun u=>(cmp v u).bind fun r=>k (decide (r<0)) else k false) (i,d) else (some d:Option (List α))) ((w64 (p1+1)),p0)
theorem Zug {cmp:α->α->Option Int} {lt:α->α->Bool} (o:Ord lt) (hc:Zo5 cmp lt) (A X B:List α) (hs:(A++(X++B)).length<=1000000) {a b:Int} (ha:a=(A.length:Int)) (hb:b=(A.length:Int)+X.length) :
  Tot (Zzs cmp (A++(X++B)) a b) fun r=>∃ Z,r=A++(Z++B)/\Z.Perm X/\Srt lt Z:=by
 simp only [List.length_append] at hs
 unfold Zzs
 rw [Zn]
 cases X with
 | nil=>
   unfold Zaq
   refine ⟨A++([]++B),?_,[],rfl,List.Perm.refl _,List.Pairwise.nil⟩
   show (if decide (a+1<b)=true then _ else some (A++([]++B)))=some (A++([]++B))
   rw [if_neg (by simp only [List.length_nil] at hb;simp;omega)]
 | cons x0 X=>
 simp only [List.length_cons] at hs hb
 refine Zr (fun q:Int×List α=>∃ Z W,0<Z.length/\q.1=(A.length:Int)+Z.length/\q.2=A++(Z++(W++B))/\Srt lt Z/\(Z++W).Perm (x0::X)) (fun q=>(b-q.1).toNat) ⟨[x0],X,by simp,by simp [ha],by simp,List.pairwise_singleton ..,List.Perm.refl _⟩ (by dsimp only;omega) ?_
 rintro ⟨i,d⟩ rec ⟨Z,W,z0,e1,e2,e3,e4⟩ ih
 dsimp only at e1 e2 ⊢
 subst e1 e2
 have hl:Z.length+W.length=X.length+1:=by
  have:=e4.length_eq
  simpa using this
 refine Zd (fun h=>?_) fun h=>?_
 ·cases W with
  | nil=>simp at hl;omega
  | cons v W=>
  simp only [List.length_cons] at hl
  have fin:∀ (P Q:List α),P++Q=Z->(∀ P' u,P=P' ++ [u]->lt v u=false)->(∀ w Q',Q=w::Q'->lt v w=true)->Tot (rec ((w64 ((A.length:Int)+Z.length+1)),A++(P++(v::(Q++(W++B)))))) fun r=>∃ Z,r=A++(Z++B)/\Z.Perm (x0::X)/\Srt lt Z:=fun P Q hPQ h1 h2=>by
   refine ih _ ⟨P++v::Q,W,by simp only [List.length_append,List.length_cons];omega,?_,by simp,ZmH o (by rw [hPQ];exact e3) h1 (fun w Q' e=>o.asym _ _ (h2 w Q' e)),?_⟩ ?_
   ·rw [<- hPQ]
    exact (Zn (by rw [<- hPQ] at hl;simp only [List.length_append] at hl ⊢;omega) (by rw [<- hPQ] at hl;simp only [List.length_append] at hl ⊢;omega)).trans (by simp;omega)
   ·refine List.Perm.trans ?_ e4
    rw [<- hPQ]
    have:(P++v::Q).Perm (P++Q ++ [v]):=by
     have:=(List.perm_middle (a:=v) (l₁:=P) (l₂:=Q)).trans (List.perm_append_singleton v (P++Q)).symm
     exact this
    have h3:=this.append_right W
    simpa using h3
   ·dsimp only
    rw [Zn]
    omega
  refine Zr (fun q:Int×List α=>∃ P Q,q.1=(A.length:Int)+P.length/\q.2=A++(P++(v::(Q++(W++B))))/\P++Q=Z/\∀ w Q',Q=w::Q'->lt v w=true) (fun q=>q.1.toNat) ⟨Z,[],rfl,by simp,by simp,fun w Q' e=>by cases e⟩ (by dsimp only;omega) ?_
  rintro ⟨j,d⟩ rec2 ⟨P,Q,f1,f2,f3,f4⟩ ih2
  dsimp only at f1 f2 ⊢
  subst f1 f2
  have hpq:P.length+Q.length=Z.length:=by rw [<- f3,List.length_append]
  refine Zap ?_
  refine Zd (fun h=>?_) fun h=>?_
  ·rcases List.eq_nil_or_concat P with e | ⟨P',u,e⟩
   ·rw [e] at h
    simp at h
    omega
   rw [List.concat_eq_append] at e
   subst e
   simp only [List.length_append,List.length_cons,List.length_nil] at h hpq ⊢
   have i1:((A.length:Int)+((P'.length+(0+1):Nat):Int))=((A++(P' ++ [u])).length:Int):=by simp<;>omega
   have i2:w64 ((A.length:Int)+((P'.length+(0+1):Nat):Int)-1)=((A++P').length:Int):=(Zn).trans (by simp;omega)
   have d1:A++(P' ++ [u]++(v::(Q++(W++B))))=(A++(P' ++ [u]))++v::(Q++(W++B)):=by simp
   have d2:A++(P' ++ [u]++(v::(Q++(W++B))))=(A++P')++u::(v::(Q++(W++B))):=by simp
   have g1:atI (A++(P' ++ [u]++(v::(Q++(W++B))))) ((A.length:Int)+((P'.length+(0+1):Nat):Int))=some v:=by
    rw [d1]
    exact Zb9 _ _ _ i1
   have g2:atI (A++(P' ++ [u]++(v::(Q++(W++B))))) (w64 ((A.length:Int)+((P'.length+(0+1):Nat):Int)-1))=some u:=by
    rw [d2]
    exact Zb9 _ _ _ i2
   have s1:ZbF (A++(P' ++ [u]++(v::(Q++(W++B))))) ((A.length:Int)+((P'.length+(0+1):Nat):Int)) u=(A++P')++u::(u::(Q++(W++B))):=by
    rw [d1,ZeO _ _ _ _ i1]
    simp
   refine Za (v:=v) g1 ?_
   refine Za (v:=u) g2 ?_
   refine Zh (hc v u) fun r hr=>?_
   refine Zd (fun hlt=>?_) fun hlt=>?_
   ·refine Za (v:=u) g2 ?_
    refine Za (v:=v) g1 ?_
    refine Za (v:=v) g1 ?_
    rw [s1]
    refine Za (v:=u) (Zb9 _ _ _ i2) ?_
    rw [ZeO _ _ _ _ i2]
    refine ih2 _ ⟨P',u::Q,?_,by simp,by rw [<- f3];simp,fun w Q' e=>?_⟩ ?_
    ·dsimp only
     rw [i2]
     simp only [List.length_append,List.length_cons,List.length_nil]
     omega
    ·injection e with e _
     rw [<- e,<- hr]
     exact decide_eq_true hlt
    ·dsimp only
     rw [i2]
     simp only [List.length_append,List.length_cons,List.length_nil]
     omega
   ·refine fin (P' ++ [u]) Q f3 (fun P2 u2 e=>?_) f4
    have:=List.append_inj_right' e rfl
    injection this with this
    rw [<- this,<- hr]
    exact decide_eq_false hlt
  ·have:P = []:=List.length_eq_zero_iff.1 (by omega)
   subst this
   exact Zbj (b:=false) (fun h=>by cases h) fun _=>fin [] Q f3 (fun P2 u2 e=>by simp at e) f4
 ·have:W = []:=List.length_eq_zero_iff.1 (by omega)
  subst this
  exact Zc ⟨Z,by simp,by simpa using e4,e3⟩
theorem Zkt {β:Type} {x:Int} {f:Int->Option β} {R:β->Prop} (h0:0<=x) (h1:x<=1000000000) (k:∀ q,w64 q=x / 2->Tot (f q) R):Tot ((ZmW .u64 (IntKind.wrap .u64 (w64 x)) 1).bind f) R:=
 Znf (by decide) (k _ (by
  rw [Zn (n:=x)]
  exact Zyn h0 (by omega)))
def Zya (cmp:α->α->Option Int) (p0:List α) (p1 p2 p3:Int):Option (List α):=ZE Zaq (fun f ((i,j):Int×Int)=>if (decide (i<j)) then (ZmW .u64 (IntKind.wrap .u64 (w64 (i+j))) 1).bind fun q=>(atI p0 (w64 q)).bind fun x=>(atI p0 p1).bind fun y=>(cmp x y).bind fun r=>if (decide (r<0)) then f ((w64 ((w64 q)+1)),j) else f (i,(w64 q)) else ZE Zaq (fun g ((k,d):Int×List α)=>if (decide (k<w64 (i-1))) then (atI d (w64 (k+1))).bind fun x=>(atI d k).bind fun y=>(atI d k).bind fun _=>(atI (ZbF d k x) (w64 (k+1))).bind fun _=>g ((w64 (k+1)),(ZbF (ZbF d k x) (w64 (k+1)) y)) else (some d:Option (List α))) (p1,p0)) (p2,p3)
theorem Zyb {cmp:α->α->Option Int} {lt:α->α->Bool} (o:Ord lt) (hc:Zo5 cmp lt) (A Y B:List α) (x:α) (hY:Srt lt Y) (hs:(A++(x::(Y++B))).length<=1000000) {a m b:Int} (ha:a=(A.length:Int)) (hm:m=(A.length:Int)+1) (hb:b=(A.length:Int)+1+Y.length) :
  Tot (Zya cmp (A++(x::(Y++B))) a m b) fun r=>∃ Z,r=A++(Z++B)/\Z.Perm (x::Y)/\Srt lt Z:=by
 simp only [List.length_append,List.length_cons] at hs
 unfold Zya
 refine Zr (fun q:Int×Int=>∃ Y1 Y2 Y3,Y=Y1++(Y2++Y3)/\q.1=m+(Y1.length:Int)/\q.2=m+(Y1.length:Int)+Y2.length/\(∀ P u,Y1=P ++ [u]->lt u x=true)/\∀ v Q,Y3=v::Q->lt v x=false) (fun q=>(q.2-q.1).toNat)
  ⟨[],Y,[],by simp,by simp,by simp;omega,fun P u e=>by simp at e,fun v Q e=>by cases e⟩ (by dsimp only;omega) ?_
 rintro ⟨i,j⟩ rec ⟨Y1,Y2,Y3,e0,e1,e2,e3,e4⟩ ih
 dsimp only at e1 e2 ⊢
 subst e1 e2
 have hl:Y1.length+(Y2.length+Y3.length)=Y.length:=by rw [e0];simp
 refine Zd (fun h=>?_) fun h=>?_
 ·refine Zkt (by omega) (by omega) fun q hq=>?_
  rw [hq]
  obtain ⟨Q1,v,Q2,c1,c2⟩:=Zwb Y2 ((m+(Y1.length:Int)+(m+(Y1.length:Int)+Y2.length)) / 2-(m+(Y1.length:Int))) (by omega) (by omega)
  have hl2:Y2.length=Q1.length+(1+Q2.length):=by rw [c1];simp;omega
  have g1:atI (A++(x::(Y++B))) ((m+(Y1.length:Int)+(m+(Y1.length:Int)+Y2.length)) / 2)=some v:=by
   have:=Zb9 (A++x::(Y1++Q1)) (Q2++(Y3++B)) v (i:=(m+(Y1.length:Int)+(m+(Y1.length:Int)+Y2.length)) / 2) (by simp only [List.length_append,List.length_cons];omega)
   rw [<- this,e0,c1]
   simp
  refine Za (v:=v) g1 ?_
  refine Za (v:=x) (Zb9 A _ x ha) ?_
  refine Zh (hc v x) fun r hr=>?_
  refine Zd (fun hlt=>?_) fun hlt=>?_
  ·refine ih _ ⟨Y1++(Q1 ++ [v]),Q2,Y3,by rw [e0,c1];simp,?_,?_,fun P u e=>?_,e4⟩ ?_
   ·exact (Zn).trans (by simp;omega)
   ·simp only [List.length_append,List.length_cons,List.length_nil]
    omega
   ·have : [v] = [u]:=List.append_inj_right' (s₁:=Y1++Q1) (by simpa using e) rfl
    injection this with this
    rw [<- this,<- hr]
    exact decide_eq_true hlt
   ·dsimp only
    rw [Zn]
    omega
  ·refine ih _ ⟨Y1,Q1,v::(Q2++Y3),by rw [e0,c1];simp,rfl,by dsimp only;omega,e3,fun w Q e=>?_⟩ (by dsimp only;omega)
   injection e with e _
   rw [<- e,<- hr]
   exact decide_eq_false hlt
 ·have hY2:Y2 = []:=List.length_eq_zero_iff.1 (by omega)
  subst hY2
  rw [List.nil_append] at e0
  rw [Zn]
  refine Zr (fun q:Int×List α=>∃ W1 W2,Y1=W1++W2/\q.2=A++(W1++(x::(W2++(Y3++B))))/\q.1=(A.length:Int)+W1.length) (fun q=>(m+(Y1.length:Int)-q.1).toNat) ⟨[],Y1,rfl,by rw [e0];simp,by simp [ha]⟩ (by dsimp only;omega) ?_
  rintro ⟨k,d⟩ rec2 ⟨W1,W2,f0,f1,f2⟩ ih2
  dsimp only at f1 f2 ⊢
  subst f1 f2
  have hw:W1.length+W2.length=Y1.length:=by rw [f0];simp
  refine Zd (fun h=>?_) fun h=>?_
  ·cases W2 with
   | nil=>simp at hw;omega
   | cons w W2=>
   simp only [List.length_cons] at hw
   have i1:((A.length:Int)+W1.length)=((A++W1).length:Int):=by rw [List.length_append];omega
   have i2:w64 ((A.length:Int)+W1.length+1)=((A++W1).length:Int)+1+(([]:List α).length:Int):=(Zn).trans (by simp)
   have d1:A++(W1++(x::(w::W2++(Y3++B))))=(A++W1)++x::([]++w::(W2++(Y3++B))):=by simp
   rw [d1]
   refine Za (v:=w) (ZmG _ _ _ _ _ i2) ?_
   refine Za (v:=x) (Zb9 _ _ _ i1) ?_
   refine Za (v:=x) (Zb9 _ _ _ i1) ?_
   refine Za (v:=w) (by rw [ZeO _ _ _ _ i1];exact ZmG _ _ _ _ _ i2) ?_
   rw [ZqB _ _ _ _ _ i1 i2]
   refine ih2 _ ⟨W1 ++ [w],W2,by rw [f0];simp,by simp,?_⟩ ?_
   ·dsimp only
    rw [i2]
    simp only [List.length_append,List.length_cons,List.length_nil]
    omega
   ·dsimp only
    rw [i2]
    simp only [List.length_append,List.length_cons,List.length_nil]
    omega
  ·have hW2:W2 = []:=List.length_eq_zero_iff.1 (by omega)
   subst hW2
   rw [List.append_nil] at f0
   subst f0
   refine Zc ⟨Y1++x::Y3,by simp,?_,ZmH o (by rw [<- e0];exact hY) (fun P u e=>o.asym _ _ (e3 P u e)) e4⟩
   rw [e0]
   exact List.perm_middle
def Zyc (cmp:α->α->Option Int) (p0:List α) (p1 p2 p3:Int):Option (List α):=ZE Zaq (fun f ((i,j):Int×Int)=>if (decide (i<j)) then (ZmW .u64 (IntKind.wrap .u64 (w64 (i+j))) 1).bind fun q=>(atI p0 p2).bind fun x=>(atI p0 (w64 q)).bind fun y=>(cmp x y).bind fun r=>if (!decide (r<0)) then f ((w64 ((w64 q)+1)),j) else f (i,(w64 q)) else ZE Zaq (fun g ((k,d):Int×List α)=>if (decide (i<k)) then (atI d (w64 (k-1))).bind fun x=>(atI d k).bind fun y=>(atI d k).bind fun _=>(atI (ZbF d k x) (w64 (k-1))).bind fun _=>g ((w64 (k-1)),(ZbF (ZbF d k x) (w64 (k-1)) y)) else (some d:Option (List α))) (p2,p0)) (p1,p2)
theorem Zyd {cmp:α->α->Option Int} {lt:α->α->Bool} (o:Ord lt) (hc:Zo5 cmp lt) (A X B:List α) (y:α) (hX:Srt lt X) (hs:(A++(X++(y::B))).length<=1000000) {a m b:Int} (ha:a=(A.length:Int)) (hm:m=(A.length:Int)+X.length) :
  Tot (Zyc cmp (A++(X++(y::B))) a m b) fun r=>∃ Z,r=A++(Z++B)/\Z.Perm (y::X)/\Srt lt Z:=by{
simp only [List.length_append,List.length_cons] at hs
unfold Zyc
refine Zr (fun q:Int×Int=>∃ X1 X2 X3,X=X1++(X2++X3)/\q.1=a+(X1.length:Int)/\q.2=a+(X1.length:Int)+X2.length/\(∀ P u,X1=P ++ [u]->lt y u=false)/\∀ v Q,X3=v::Q->lt y v=true) (fun q=>(q.2-q.1).toNat)
 ⟨[],X,[],by simp,by simp,by simp;omega,fun P u e=>by simp at e,fun v Q e=>by cases e⟩ (by dsimp only;omega) ?_
rintro ⟨i,j⟩ rec ⟨X1,X2,X3,e0,e1,e2,e3,e4⟩ ih
dsimp only at e1 e2 ⊢
subst e1 e2
have hl:X1.length+(X2.length+X3.length)=X.length:=by rw [e0];simp
have gy:atI (A++(X++(y::B))) m=some y:=by
 have:=Zb9 (A++X) B y (i:=m) (by rw [List.length_append];omega)
 rw [<- this]
 simp
refine Zd (fun h=>?_) fun h=>?_
refine Zkt (by omega) (by omega) fun q hq=>?_
rw [hq]
obtain ⟨Q1,v,Q2,c1,c2⟩:=Zwb X2 ((a+(X1.length:Int)+(a+(X1.length:Int)+X2.length)) / 2-(a+(X1.length:Int))) (by omega) (by omega)
have hl2:X2.length=Q1.length+(1+Q2.length):=by rw [c1];simp;omega
have g1:atI (A++(X++(y::B))) ((a+(X1.length:Int)+(a+(X1.length:Int)+X2.length)) / 2)=some v:=by
 have:=Zb9 (A++(X1++Q1)) (Q2++(X3++(y::B))) v (i:=(a+(X1.length:Int)+(a+(X1.length:Int)+X2.length)) / 2) (by simp only [List.length_append,List.length_cons];omega)
 rw [<- this,e0,c1]
 simp
refine Za (v:=y) gy ?_
refine Za (v:=v) g1 ?_
refine Zh (hc y v) fun r hr=>?_
refine Zak (fun hlt=>?_) fun hlt=>?_
refine ih _ ⟨X1++(Q1 ++ [v]),Q2,X3,by rw [e0,c1];simp,?_,?_,fun P u e=>?_,e4⟩ ?_
exact (Zn).trans (by simp;omega)
simp only [List.length_append,List.length_cons,List.length_nil]
omega
have : [v] = [u]:=List.append_inj_right' (s₁:=X1++Q1) (by simpa using e) rfl
injection this with this
rw [<- this,<- hr]
exact decide_eq_false hlt
dsimp only
rw [Zn]
omega
refine ih _ ⟨X1,Q1,v::(Q2++X3),by rw [e0,c1];simp,rfl,by dsimp only;omega,e3,fun w Q e=>?_⟩ (by dsimp only;omega)
injection e with e _
rw [<- e,<- hr]
exact decide_eq_true hlt
have hX2:X2 = []:=List.length_eq_zero_iff.1 (by omega)
subst hX2
rw [List.nil_append] at e0
refine Zr (fun q:Int×List α=>∃ W1 W2,X3=W1++W2/\q.2=A++(X1++(W1++(y::(W2++B))))/\q.1=(A.length:Int)+X1.length+W1.length) (fun q=>q.1.toNat) ⟨X3,[],by simp,by rw [e0];simp,by dsimp only;omega⟩ (by dsimp only;omega) ?_
rintro ⟨k,d⟩ rec2 ⟨W1,W2,f0,f1,f2⟩ ih2
dsimp only at f1 f2 ⊢
subst f1 f2
have hw:W1.length+W2.length=X3.length:=by rw [f0];simp
refine Zd (fun h=>?_) fun h=>?_
rcases List.eq_nil_or_concat W1 with e | ⟨W,w,e⟩
rw [e] at h
simp at h
omega
rw [List.concat_eq_append] at e
subst e
simp only [List.length_append,List.length_cons,List.length_nil] at h hw ⊢
have i1:((A.length:Int)+X1.length+((W.length+(0+1):Nat):Int))=((A++(X1++(W ++ [w]))).length:Int):=by simp<;>omega
have i2:w64 ((A.length:Int)+X1.length+((W.length+(0+1):Nat):Int)-1)=((A++(X1++W)).length:Int):=(Zn).trans (by simp<;>omega)
have d1:A++(X1++((W ++ [w])++(y::(W2++B))))=(A++(X1++(W ++ [w])))++y::(W2++B):=by simp
have d2:A++(X1++((W ++ [w])++(y::(W2++B))))=(A++(X1++W))++w::(y::(W2++B)):=by simp
have g1:atI (A++(X1++((W ++ [w])++(y::(W2++B))))) ((A.length:Int)+X1.length+((W.length+(0+1):Nat):Int))=some y:=by
 rw [d1]
 exact Zb9 _ _ _ i1
have g2:atI (A++(X1++((W ++ [w])++(y::(W2++B))))) (w64 ((A.length:Int)+X1.length+((W.length+(0+1):Nat):Int)-1))=some w:=by
 rw [d2]
 exact Zb9 _ _ _ i2
have s1:ZbF (A++(X1++((W ++ [w])++(y::(W2++B))))) ((A.length:Int)+X1.length+((W.length+(0+1):Nat):Int)) w=(A++(X1++W))++w::(w::(W2++B)):=by
 rw [d1,ZeO _ _ _ _ i1]
 simp
refine Za (v:=w) g2 ?_
refine Za (v:=y) g1 ?_
refine Za (v:=y) g1 ?_
rw [s1]
refine Za (v:=w) (Zb9 _ _ _ i2) ?_
rw [ZeO _ _ _ _ i2]
refine ih2 _ ⟨W,w::W2,by rw [f0];simp,by simp,?_⟩ ?_
dsimp only
rw [i2]
simp only [List.length_append,List.length_cons,List.length_nil]
omega
dsimp only
rw [i2]
simp only [List.length_append,List.length_cons,List.length_nil]
omega
have hW1:W1 = []:=List.length_eq_zero_iff.1 (by omega)
subst hW1
rw [List.nil_append] at f0
subst f0
refine Zc ⟨X1++y::X3,by simp,?_,ZmH o (by rw [<- e0];exact hX) e3 fun v Q e=>o.asym _ _ (e4 v Q e)⟩
rw [e0]
exact List.perm_middle}
theorem ZvC {β:Type} {cmp:α->α->Option Int} {lt:α->α->Bool} (hc:Zo5 cmp lt) (A X Y B:List α) {lo hi mid:Nat} (hlh:lo<=hi) (h1:A.length<=lo) (h2:hi<=A.length+X.length) (h3:hi<=mid) (h4:mid<=lo+Y.length) (hs:(A++(X++(Y++B))).length<=1000000) {p:Int} (hp:p=(mid:Int)+A.length+X.length-1) {tail:Int->Option β} {R:β->Prop}
  (k:∀ s:Nat,lo<=s->s<=hi->(lo<s->∀ x y,X[s-1-A.length]? = some x->Y[mid-s]? = some y->lt y x=false)->(s<hi->∀ x y,X[s-A.length]? = some x->Y[mid-1-s]? = some y->lt y x=true)->Tot (tail (s:Int)) R) {a0 b0:Int} (ha0:a0=(lo:Int)) (hb0:b0=(hi:Int)) :
  Tot (ZE Zaq (fun f ((st,r):Int×Int)=>
   if (decide (st<r)) then
    (ZmW .u64 (IntKind.wrap .u64 (w64 (st+r))) 1).bind fun q=>
    (atI (A++(X++(Y++B))) (w64 (p-(w64 q)))).bind fun x=>
    (atI (A++(X++(Y++B))) (w64 q)).bind fun y=>
    (cmp x y).bind fun t=>
    if (!decide (t<0)) then
     f ((w64 ((w64 q)+1)),r)
    else
    f (st,(w64 q))
   else
   tail st) (a0,b0)) R:=by
 simp only [List.length_append] at hs
 refine Zr (fun q:Int×Int=>∃ s r:Nat,q.1=s/\q.2=r/\lo<=s/\s<=r/\r<=hi/\(lo<s->∀ x y,X[s-1-A.length]? = some x->Y[mid-s]? = some y->lt y x=false)/\(r<hi->∀ x y,X[r-A.length]? = some x->Y[mid-1-r]? = some y->lt y x=true)) (fun q=>(q.2-q.1).toNat)
  ⟨lo,hi,ha0,hb0,Nat.le_refl _,hlh,Nat.le_refl _,fun h=>absurd h (by omega),fun h=>absurd h (by omega)⟩ (by dsimp only;omega) ?_
 rintro ⟨st,r⟩ rec ⟨s,r',e1,e2,e3,e4,e5,e6,e7⟩ ih
 dsimp only at e1 e2 ⊢
 subst e1 e2
 refine Zd (fun h=>?_) fun h=>?_
 ·refine Zkt (by omega) (by omega) fun q hq=>?_
  rw [hq]
  obtain ⟨c,hcc,c1,c2⟩:∃ c:Nat,((s:Int)+(r':Int)) / 2=(c:Int)/\s<=c/\c<r':=⟨(s+r') / 2,by omega,by omega,by omega⟩
  rw [hcc]
  have ix:c-A.length<X.length:=by omega
  have iy:mid-1-c<Y.length:=by omega
  have gx:X[c-A.length]? = some X[c-A.length]:=List.getElem?_eq_getElem ix
  have gy:Y[mid-1-c]? = some Y[mid-1-c]:=List.getElem?_eq_getElem iy
  have g1:atI (A++(X++(Y++B))) (w64 (p-(c:Int)))=some Y[mid-1-c]:=by
   rw [Zn,show p-(c:Int)=((A.length+(X.length+(mid-1-c)):Nat):Int) by omega,Zan,List.getElem?_append_right (by omega),List.getElem?_append_right (by omega),List.getElem?_append_left (by omega)]
   rw [<- gy]
   congr 1
   omega
  have g2:atI (A++(X++(Y++B))) (c:Int)=some X[c-A.length]:=by
   rw [Zan,List.getElem?_append_right (by omega),List.getElem?_append_left (by omega),gx]
  refine Za (v:=Y[mid-1-c]) g1 ?_
  refine Za (v:=X[c-A.length]) g2 ?_
  refine Zh (hc _ _) fun t ht=>?_
  refine Zak (fun hlt=>?_) fun hlt=>?_
  ·refine ih _ ⟨c+1,r',?_,rfl,by omega,by omega,e5,fun _ x y hx hy=>?_,e7⟩ ?_
   ·exact (Zn).trans (by omega)
   ·have q1:c+1-1-A.length=c-A.length:=by omega
    have q2:mid-(c+1)=mid-1-c:=by omega
    rw [q1,gx] at hx
    rw [q2,gy] at hy
    injection hx with hx
    injection hy with hy
    rw [<- hx,<- hy,<- ht]
    exact decide_eq_false hlt
   ·dsimp only
    rw [Zn]
    omega
  ·refine ih _ ⟨s,c,rfl,rfl,e3,c1,by omega,e6,fun _ x y hx hy=>?_⟩ (by dsimp only;omega)
   rw [gx] at hx
   rw [gy] at hy
   injection hx with hx
   injection hy with hy
   rw [<- hx,<- hy,<- ht]
   exact decide_eq_true hlt
 ·obtain rfl:s=r':=by omega
  exact k s e3 e5 e6 e7
def ZxA (rec:List α->Int->Int->Int->Option (List α)) (mid e p3:Int) (d:List α):Option (List α):=letk (fun (b:Bool)=>if b then (rec d mid e p3).bind fun r=>(some r:Option (List α)) else (some d:Option (List α))) fun k=>if (decide (mid<e)) then k (decide (e<p3)) else k false
def ZxB (rec:List α->Int->Int->Int->Option (List α)) (p1 st mid e p3:Int) (d:List α):Option (List α):=letk (fun (b:Bool)=>letk (fun (d:List α)=>ZxA rec mid e p3 d) fun k=>if b then (rec d p1 st mid).bind fun r=>k r else k d) fun k=>if (decide (p1<st)) then k (decide (st<mid)) else k false
def ZxC (rec:List α->Int->Int->Int->Option (List α)) (p0:List α) (p1 p2 p3 st mid e:Int):Option (List α):=letk (fun (b:Bool)=>letk (fun (d:List α)=>ZxB rec p1 st mid e p3 d) fun k=>if b then (Zz4 p0 st p2 e).bind fun r=>k r else k p0) fun k=>if (decide (st<p2)) then k (decide (p2<e)) else k false
def ZuD (cmp:α->α->Option Int):Nat->List α->Int->Int->Int->Option (List α) | 0,_,_,_,_=>none | mF+1,p0,p1,p2,p3=>if (decide ((w64 (p2-p1))=1)) then Zya cmp p0 p1 p2 p3 else if (decide ((w64 (p3-p2))=1)) then Zyc cmp p0 p1 p2 p3 else (ZmW .u64 (IntKind.wrap .u64 (w64 (p1+p3))) 1).bind fun q=>letk (fun (s0:Int) (r0:Int)=>ZE Zaq (fun f ((st,r):Int×Int)=>if (decide (st<r)) then (ZmW .u64 (IntKind.wrap .u64 (w64 (st+r))) 1).bind fun q2=>(atI p0 (w64 ((w64 ((w64 ((w64 q)+p2))-1))-(w64 q2)))).bind fun x=>(atI p0 (w64 q2)).bind fun y=>(cmp x y).bind fun t=>if (!decide (t<0)) then f ((w64 ((w64 q2)+1)),r) else f (st,(w64 q2)) else ZxC (ZuD cmp mF) p0 p1 p2 p3 st (w64 q) (w64 ((w64 ((w64 q)+p2))-st))) (s0,r0)) fun k=>if (decide ((w64 q)<p2)) then k (w64 ((w64 ((w64 q)+p2))-p3)) (w64 q) else k p1 p2
theorem Znm {β:Type} {p q:Prop} [Decidable p] [Decidable q] {k:Bool->Option β} {R:β->Prop} (h1:p->q->Tot (k true) R) (h2:¬ (p/\q)->Tot (k false) R):Tot (letk k fun k=>if decide p=true then k (decide q) else k false) R:=by{
show Tot (if decide p=true then k (decide q) else k false) R
refine Zd (fun hp=>?_) fun hp=>h2 fun h=>hp h.1
by_cases hq:q
rw [decide_eq_true hq]
exact h1 hp hq
rw [decide_eq_false hq]
exact h2 fun h=>hq h.2}
theorem Zwn {cmp:α->α->Option Int} {lt:α->α->Bool} (o:Ord lt) (hc:Zo5 cmp lt):∀ (f:Nat) (A X Y B:List α),0<X.length->0<Y.length->X.length+Y.length<=2 ^ f->(A++(X++(Y++B))).length<=1000000->Srt lt X->Srt lt Y->∀ {a m b:Int},a=(A.length:Int)->m=(A.length:Int)+X.length->b=(A.length:Int)+X.length+Y.length->
  Tot (ZuD cmp (f+1) (A++(X++(Y++B))) a m b) fun r=>∃ Z,r=A++(Z++B)/\Z.Perm (X++Y)/\Srt lt Z:=by{
intro f
induction f with
| zero=>intro A X Y B x0 y0 hf;simp at hf;omega
| succ f ihf=>
intro A X Y B x0 y0 hf hs hX hY a m b ha hm hb
have hs':=hs
simp only [List.length_append] at hs'
unfold ZuD
refine Zd (fun h=>?_) fun hn1=>?_
rw [Zn] at h
match X,x0 with
| [x],_=>
  refine (Zyb o hc A Y B x hY (by simpa using hs) ha (by simpa using hm) (by simpa using hb)).mono fun r ⟨Z,h1,h2,h3⟩=>⟨Z,h1,h2,h3⟩
| _::_::_,_=>simp only [List.length_cons] at hm;omega
rw [Zn] at hn1
refine Zd (fun h=>?_) fun hn2=>?_
rw [Zn] at h
match Y,y0 with
| [y],_=>
  refine (Zyd o hc A X B y hX (by simpa using hs) ha hm).mono fun r ⟨Z,h1,h2,h3⟩=>⟨Z,h1,h2.trans (List.perm_append_singleton y X).symm,h3⟩
| _::_::_,_=>simp only [List.length_cons] at hb;omega
rw [Zn] at hn2
refine Zkt (by omega) (by omega) fun q hq=>?_
obtain ⟨mid,hmid⟩:∃ mid:Nat,(a+b) / 2=(mid:Int):=⟨((a+b) / 2).toNat,by omega⟩
rw [hq,hmid]
have hn:w64 ((mid:Int)+m)=(mid:Int)+m:=Zn
rw [hn,Zn (n:=(mid:Int)+m-1)]
have hp2:2 ^ (f+1)=2 ^ f+2 ^ f:=by rw [Nat.pow_succ];omega
have main:∀ (lo hi:Nat),lo<=hi->A.length<=lo->hi<=A.length+X.length->hi<=mid->mid<=lo+Y.length->(lo=A.length\/mid=lo+Y.length)->(hi=A.length+X.length\/hi=mid)->∀ {a0 b0:Int},a0=lo->b0=hi->_:=fun lo hi l1 l2 l3 l4 l5 l6 l7 a0 b0 ea eb=>
 ZvC (lt:=lt) (R:=fun r=>∃ Z,r=A++(Z++B)/\Z.Perm (X++Y)/\Srt lt Z) hc A X Y B l1 l2 l3 l4 l5 hs (p:=(mid:Int)+m-1) (by omega) (tail:=fun st=>ZxC (ZuD cmp (f+1)) (A++(X++(Y++B))) a m b st (mid:Int) (w64 ((mid:Int)+m-st))) (fun s k1 k2 k3 k4=>by
  have he:w64 ((mid:Int)+m-(s:Int))=(mid:Int)+m-s:=Zn
  rw [he]
  obtain ⟨X1,X2,cx,lx⟩:=Zkx X (s-A.length) (by omega)
  obtain ⟨Y1,Y2,cy,ly⟩:=Zkx Y (mid-s) (by omega)
  have hx2:X1.length+X2.length=X.length:=by rw [cx,List.length_append]
  have hy2:Y1.length+Y2.length=Y.length:=by rw [cy,List.length_append]
  have sx:Srt lt (X1++X2):=by rw [<- cx];exact hX
  have sy:Srt lt (Y1++Y2):=by rw [<- cy];exact hY
  obtain ⟨sx1,sx2,_⟩:=List.pairwise_append.1 sx
  obtain ⟨sy1,sy2,_⟩:=List.pairwise_append.1 sy
  have hpart:=ZuE o sx sy (fun P x y Q e1 e2=>by
   have z1:0<X1.length:=by rw [e1];simp
   have z2:0<Y2.length:=by rw [e2];simp
   refine k3 (by omega) x y ?_ ?_
   rw [cx,List.getElem?_append_left (by omega),e1]
   have:s-1-A.length=P.length:=by
    have:X1.length=P.length+1:=by rw [e1];simp
    omega
   rw [this]
   simp
   rw [cy,List.getElem?_append_right (by omega),ly,Nat.sub_self,e2]
   rfl) (fun P x y Q e1 e2=>by
   have z1:0<Y1.length:=by rw [e1];simp
   have z2:0<X2.length:=by rw [e2];simp
   refine k4 (by omega) x y ?_ ?_
   rw [cx,List.getElem?_append_right (by omega),lx,Nat.sub_self,e2]
   rfl
   rw [cy,List.getElem?_append_left (by omega),e1]
   have:mid-1-s=P.length:=by
    have:Y1.length=P.length+1:=by rw [e1];simp
    omega
   rw [this]
   simp)
  have d0:A++(X++(Y++B))=(A++X1)++(X2++(Y1++(Y2++B))):=by rw [cx,cy];simp
  have hC:∀ Z1:List α,Z1.Perm (X1++Y1)->Srt lt Z1->Tot (ZxA (ZuD cmp (f+1)) (mid:Int) ((mid:Int)+m-s) b (A++(Z1++(X2++(Y2++B))))) fun r=>∃ Z,r=A++(Z++B)/\Z.Perm (X++Y)/\Srt lt Z:=fun Z1 p1 q1=>by
   have hz1:Z1.length=mid-A.length:=by
    have:=p1.length_eq
    rw [List.length_append] at this
    omega
   have fin:∀ Z2:List α,Z2.Perm (X2++Y2)->Srt lt Z2->∃ Z,(A++Z1)++(Z2++B)=A++(Z++B)/\Z.Perm (X++Y)/\Srt lt Z:=fun Z2 p2 q2=>by
    refine ⟨Z1++Z2,by simp,?_,ZuF q1 q2 p1 p2 hpart⟩
    refine (p1.append p2).trans ?_
    rw [cx,cy]
    have h1:(X1++Y1++(X2++Y2)).Perm (X1++(X2++(Y1++Y2))):=by
     rw [List.append_assoc]
     refine List.Perm.append_left X1 ?_
     rw [<- List.append_assoc,<- List.append_assoc]
     exact List.Perm.append_right Y2 List.perm_append_comm
    refine h1.trans ?_
    simp
   unfold ZxA
   refine Znm (fun h1 h2=>?_) fun h=>?_
   refine Zbj (fun _=>?_) fun e=>by cases e
   have d1:A++(Z1++(X2++(Y2++B)))=(A++Z1)++(X2++(Y2++B)):=by simp
   rw [d1]
   refine Zh (ihf (A++Z1) X2 Y2 B (by omega) (by omega) (by omega) (by simp only [List.length_append];omega) sx2 sy2 (by rw [List.length_append];omega) (by rw [List.length_append];omega) (by rw [List.length_append];omega)) fun r ⟨Z2,h1,h2,h3⟩=>?_
   rw [h1]
   exact Zc (fin Z2 h2 h3)
   refine Zbj (fun e=>by cases e) fun _=>?_
   have hz:X2 = []\/Y2 = []:=by
    by_cases hx:X2.length=0
    exact .inl (List.length_eq_zero_iff.1 hx)
    exact .inr (List.length_eq_zero_iff.1 (by omega))
   have h2:Srt lt (X2++Y2):=by
    rcases hz with e | e
    rw [e];exact sy2
    rw [e,List.append_nil];exact sx2
   refine Zc ?_
   have:=fin (X2++Y2) (List.Perm.refl _) h2
   simpa using this
  have hD:Tot (ZxB (ZuD cmp (f+1)) a (s:Int) (mid:Int) ((mid:Int)+m-s) b (A++(X1++(Y1++(X2++(Y2++B)))))) fun r=>∃ Z,r=A++(Z++B)/\Z.Perm (X++Y)/\Srt lt Z:=by
   unfold ZxB
   refine Znm (fun h1 h2=>?_) fun h=>?_
   refine Zap ?_
   refine Zbj (fun _=>?_) fun e=>by cases e
   refine Zh (Q:=fun r=>∃ Z,r=A++(Z++(X2++(Y2++B)))/\Z.Perm (X1++Y1)/\Srt lt Z) (ihf A X1 Y1 (X2++(Y2++B)) (by omega) (by omega) (by omega) (by simp only [List.length_append];omega) sx1 sy1 ha (by omega) (by omega)) fun r hr=>?_
   obtain ⟨Z1,rfl,h2,h3⟩:=hr
   exact hC Z1 h2 h3
   refine Zap ?_
   refine Zbj (fun e=>by cases e) fun _=>?_
   have hz:X1 = []\/Y1 = []:=by
    by_cases hx:X1.length=0
    exact .inl (List.length_eq_zero_iff.1 hx)
    exact .inr (List.length_eq_zero_iff.1 (by omega))
   have h2:Srt lt (X1++Y1):=by
    rcases hz with e | e
    rw [e];exact sy1
    rw [e,List.append_nil];exact sx1
   have:=hC (X1++Y1) (List.Perm.refl _) h2
   simpa using this
  unfold ZxC
  refine Znm (fun h1 h2=>?_) fun h=>?_
  refine Zap ?_
  refine Zbj (fun _=>?_) fun e=>by cases e
  rw [d0]
  refine Zh (Q:=fun r=>r=(A++X1)++(Y1++(X2++(Y2++B)))) (Zzo (A++X1) X2 Y1 (Y2++B) (fun e=>by rw [e] at hx2;simp at hx2;omega) (fun e=>by rw [e] at ly;simp at ly;omega) (by simp only [List.length_append];omega) (by rw [List.length_append];omega) (by rw [List.length_append];omega) (by rw [List.length_append];omega)) fun r hr=>?_
  rw [hr]
  simpa using hD
  refine Zap ?_
  refine Zbj (fun e=>by cases e) fun _=>?_
  have hz:X2 = []\/Y1 = []:=by
   by_cases hx:X2.length=0
   exact .inl (List.length_eq_zero_iff.1 hx)
   exact .inr (List.length_eq_zero_iff.1 (by omega))
  rw [d0]
  rcases hz with e | e
  rw [e] at hD ⊢
  simpa using hD
  rw [e] at hD ⊢
  simpa using hD) ea eb
refine Zap ?_
refine Zd (fun h=>?_) fun h=>?_
exact main (mid+A.length+X.length-(A.length+X.length+Y.length)) mid (by omega) (by omega) (by omega) (by omega) (by omega) (.inr (by omega)) (.inr rfl) (by rw [Zn];omega) rfl
exact main A.length (A.length+X.length) (by omega) (by omega) (by omega) (by omega) (by omega) (.inl rfl) (.inl rfl) ha hm}
inductive Runs (lt:α->α->Bool) (bs:Nat):List α->Prop
 | last (X:List α) (h:Srt lt X) (hl:X.length<=bs):Runs lt bs X
 | cons (X L:List α) (h:Srt lt X) (hl:X.length=bs) (hr:Runs lt bs L):Runs lt bs (X++L)
variable {lt:α->α->Bool}
theorem Zi8 {bs:Nat} {L:List α} (h:Runs lt bs L) (hl:L.length<=bs):Srt lt L:=by{
cases h with
| last X h1 h2=>exact h1
| cons X L h1 h2 h3=>
  rw [List.length_append] at hl
  have:L = []:=List.length_eq_zero_iff.1 (by omega)
  subst this
  rw [List.append_nil]
  exact h1}
theorem ZqE {bs:Nat} {L:List α} (h:Runs lt bs L) (hl:bs<L.length):∃ X L',L=X++L'/\X.length=bs/\Srt lt X/\Runs lt bs L':=by
 cases h with
 | last X h1 h2=>omega
 | cons X L h1 h2 h3=>exact ⟨X,L,rfl,h2,h1,h3⟩
theorem ZsO {bs:Nat} (hb:0<bs) {L:List α} (h:Runs lt bs L) (hl:2 * bs<=L.length):∃ X Y L',L=X++(Y++L')/\X.length=bs/\Y.length=bs/\Srt lt X/\Srt lt Y/\Runs lt bs L':=by{
obtain ⟨X,L1,rfl,h1,h2,h3⟩:=ZqE h (by omega)
rw [List.length_append] at hl
cases h3 with
| last Y k1 k2=>exact ⟨X,L1,[],by simp,h1,by omega,h2,k1,.last [] List.Pairwise.nil (Nat.zero_le _)⟩
| cons Y L k1 k2 k3=>exact ⟨X,Y,L,rfl,h1,k2,h2,k1,k3⟩}
def ZwN (cmp:α->α->Option Int) (p0:List α) (p1:Int):Option (List α):=ZE Zaq (fun f ((a,b,d):Int×Int×List α)=>if (decide (b<=p1)) then (Zzs cmp d a b).bind fun d=>f (b,(w64 (b+20)),d) else (Zzs cmp d a p1).bind fun d=>ZE Zaq (fun g ((bs,d):Int×List α)=>if (decide (bs<p1)) then ZE Zaq (fun h ((a,b,d):Int×Int×List α)=>if (decide (b<=p1)) then (ZuD cmp 64 d a (w64 (a+bs)) b).bind fun d=>h (b,(w64 (b+(w64 (2 * bs)))),d) else letk (fun (d:List α)=>g ((w64 (bs * 2)),d)) fun k=>if (decide ((w64 (a+bs))<p1)) then (ZuD cmp 64 d a (w64 (a+bs)) p1).bind fun d=>k d else k d) (0,(w64 (2 * bs)),d) else (some d:Option (List α))) (20,d)) (0,20,p0)
theorem Zyv:(1000000:Nat)<=2 ^ 63:=by decide
theorem ZwO {cmp:α->α->Option Int} (o:Ord lt) (hc:Zo5 cmp lt) (l:List α) (hl:l.length<=100000) {n:Int} (hn:n=(l.length:Int)):Tot (ZwN cmp l n) fun r=>r.Perm l/\Srt lt r:=by{
unfold ZwN
refine Zr (fun q:Int×Int×List α=>∃ P W,q.2.2=P++W/\q.1=(P.length:Int)/\q.2.1=(P.length:Int)+20/\(P++W).Perm l/\∀ V,Runs lt 20 V->Runs lt 20 (P++V)) (fun q=>(n-q.1).toNat) ⟨[],l,rfl,rfl,rfl,List.Perm.refl _,fun V h=>h⟩ (by dsimp only;omega) ?_
rintro ⟨a,b,d⟩ rec ⟨P,W,e1,e2,e3,e4,e5⟩ ih
dsimp only at e1 e2 e3 ⊢
subst e1 e2 e3
have hlen:P.length+W.length=l.length:=by
 have:=e4.length_eq
 rwa [List.length_append] at this
refine Zd (fun h=>?_) fun h=>?_
obtain ⟨X,W',c1,c2⟩:=Zkx W 20 (by omega)
have hw:X.length+W'.length=W.length:=by rw [c1,List.length_append]
refine Zh (Q:=fun r=>∃ Z,r=P++(Z++W')/\Z.Perm X/\Srt lt Z) (by rw [c1];exact Zug o hc P X W' (by simp only [List.length_append];omega) rfl (by omega)) fun r hr=>?_
obtain ⟨Z,rfl,h2,h3⟩:=hr
have hz:=h2.length_eq
refine ih _ ⟨P++Z,W',by simp,by dsimp only;rw [List.length_append];omega,?_,?_,fun V hV=>?_⟩ ?_
dsimp only
rw [Zn,List.length_append]
omega
refine List.Perm.trans ?_ e4
rw [c1,List.append_assoc]
exact List.Perm.append_left P (h2.append_right W')
rw [List.append_assoc]
exact e5 _ (.cons Z V h3 (by omega) hV)
dsimp only
omega
refine Zh (Q:=fun r=>∃ Z,r=P++(Z ++ [])/\Z.Perm W/\Srt lt Z) (by
 have:=Zug o hc P W [] (by simp only [List.length_append,List.length_nil];omega) (a:=(P.length:Int)) (b:=n) rfl (by omega)
 simpa using this) fun r hr=>?_
obtain ⟨Z,rfl,h2,h3⟩:=hr
have hz:=h2.length_eq
refine Zr (fun q:Int×List α=>∃ bs:Nat,q.1=(bs:Int)/\0<bs/\bs<=200000/\Runs lt bs q.2/\q.2.Perm l) (fun q=>(200001-q.1).toNat) ⟨20,rfl,by omega,by omega,?_,?_⟩ (by dsimp only;omega) ?_
dsimp only
rw [List.append_nil]
exact e5 _ (.last Z h3 (by omega))
dsimp only
rw [List.append_nil]
exact (List.Perm.append_left P h2).trans e4
rintro ⟨bsI,d⟩ rec2 ⟨bs,f1,f2,f3,f4,f5⟩ ih2
dsimp only at f1 f4 f5 ⊢
subst f1
have hd:=f5.length_eq
refine Zd (fun hlt=>?_) fun hlt=>?_
rw [Zn (n:=2 * (bs:Int))]
refine Zr (fun q:Int×Int×List α=>∃ P W,q.2.2=P++W/\q.1=(P.length:Int)/\q.2.1=(P.length:Int)+2 * bs/\(P++W).Perm l/\(∀ V,Runs lt (2 * bs) V->Runs lt (2 * bs) (P++V))/\Runs lt bs W) (fun q=>(n-q.1).toNat) ⟨[],d,rfl,rfl,by simp,f5,fun V h=>h,f4⟩ (by dsimp only;omega) ?_
rintro ⟨a2,b2,d2⟩ rec3 ⟨P2,W2,g1,g2,g3,g4,g5,g6⟩ ih3
dsimp only at g1 g2 g3 ⊢
subst g1 g2 g3
have hl2:P2.length+W2.length=l.length:=by
 have:=g4.length_eq
 rwa [List.length_append] at this
have e1:w64 ((P2.length:Int)+bs)=(P2.length:Int)+bs:=Zn
rw [e1]
refine Zd (fun hle=>?_) fun hle=>?_
obtain ⟨X,Y,L,rfl,x1,y1,x2,y2,hL⟩:=ZsO f2 g6 (by omega)
simp only [List.length_append] at hl2
refine Zh (Zwn o hc 63 P2 X Y L (by omega) (by omega) (Nat.le_trans (by omega) Zyv) (by simp only [List.length_append];omega) x2 y2 rfl (by omega) (by omega)) fun r hr=>?_
obtain ⟨Z2,rfl,k2,k3⟩:=hr
have hz2:=k2.length_eq
rw [List.length_append] at hz2
refine ih3 _ ⟨P2++Z2,L,by simp,by dsimp only;rw [List.length_append];omega,?_,?_,fun V hV=>?_,hL⟩ ?_
dsimp only
rw [Zn,List.length_append]
omega
refine List.Perm.trans ?_ g4
rw [List.append_assoc]
refine List.Perm.append_left P2 ?_
have:=k2.append_right L
simpa using this
rw [List.append_assoc]
exact g5 _ (.cons Z2 V k3 (by omega) hV)
dsimp only
omega
refine Zw (fun k=>∀ Z2:List α,Z2.Perm W2->Srt lt Z2->Tot (k (P2++Z2)) fun r=>r.Perm l/\Srt lt r) (fun Z2 p1 q1=>?_) fun k hk=>?_
have hz2:=p1.length_eq
refine ih2 _ ⟨2 * bs,?_,by omega,by omega,g5 _ (.last Z2 q1 (by omega)),(List.Perm.append_left P2 p1).trans g4⟩ ?_
dsimp only
rw [Zn]
omega
dsimp only
rw [Zn]
omega
refine Zd (fun hm=>?_) fun hm=>?_
obtain ⟨X,Y,rfl,x1,x2,hY⟩:=ZqE g6 (by omega)
simp only [List.length_append] at hl2
refine Zh (Q:=fun r=>∃ Z,r=P2++(Z ++ [])/\Z.Perm (X++Y)/\Srt lt Z) (by
 have:=Zwn o hc 63 P2 X Y [] (by omega) (by omega) (Nat.le_trans (by omega) Zyv) (by simp only [List.length_append,List.length_nil];omega) x2 (Zi8 hY (by omega)) (a:=(P2.length:Int)) (m:=(P2.length:Int)+bs) (b:=n) rfl (by omega) (by omega)
 simpa using this) fun r hr=>?_
obtain ⟨Z2,rfl,k2,k3⟩:=hr
rw [List.append_nil]
exact hk Z2 k2 k3
exact hk W2 (List.Perm.refl _) (Zi8 g6 (by omega))
exact Zc ⟨f5,Zi8 f4 (by omega)⟩}
end
instance (a b:Title):Decidable (tlt a b):=inferInstanceAs (Decidable (Title.cmp a b<0))
def Zyl (a b:Title):Bool:=decide (tlt a b)
theorem ZiZ {a b:Title} (h:tlt a b):¬ tlt b a:=fun k=>ZaE a (Zgq h k)
theorem Zuy {a b:Title}:¬ tlt b a↔tlt a b\/a=b:=by{
constructor
intro h
by_cases e:a=b
exact .inr e
rcases ZkE e with k | k
exact .inl k
exact absurd k h
rintro (h | rfl)
exact ZiZ h
exact ZaE a}
theorem Zpe {a b c:Title} (h:¬ tlt b a) (k:¬ tlt c b):¬ tlt c a:=by{
rw [Zuy] at *
rcases h with h | rfl
rcases k with k | rfl
exact .inl (Zgq h k)
exact .inl h
exact k}
theorem Zv7:Ord Zyl:=⟨fun a b h=>decide_eq_false (ZiZ (of_decide_eq_true h)),fun a b c h k=>decide_eq_false (Zpe (of_decide_eq_false h) (of_decide_eq_false k))⟩
structure KeyF where
 seq:Int
 title:Title
 number:Int
def Zv8 (a b:KeyF):Prop:=a.seq<b.seq\/(a.seq=b.seq/\(tlt a.title b.title\/(a.title=b.title/\a.number<b.number)))
instance (a b:KeyF):Decidable (Zv8 a b):=by unfold Zv8;infer_instance
def kLt (a b:KeyF):Bool:=decide (Zv8 a b)
theorem Zuz {a b:KeyF} (h:Zv8 a b):¬ Zv8 b a:=by{
unfold Zv8 at *
rintro (k | ⟨k1,k2⟩)
rcases h with h | ⟨h1,_⟩<;>omega
rcases h with h | ⟨_,h2⟩
omega
rcases h2 with h2 | ⟨h3,h4⟩
rcases k2 with k2 | ⟨k3,_⟩
exact ZiZ h2 k2
rw [k3] at h2
exact ZaE _ h2
rcases k2 with k2 | ⟨_,k4⟩
rw [h3] at k2
exact ZaE _ k2
omega}
theorem Zi0 {a b:KeyF}:¬ Zv8 b a↔a.seq<b.seq\/(a.seq=b.seq/\(tlt a.title b.title\/(a.title=b.title/\a.number<=b.number))):=by{
constructor
intro h
unfold Zv8 at h
rw [not_or,Classical.not_and_iff_not_or_not,not_or,Classical.not_and_iff_not_or_not] at h
obtain ⟨h1,h2⟩:=h
by_cases e:a.seq=b.seq
refine .inr ⟨e,?_⟩
rcases h2 with h2 | ⟨h2,h3⟩
exact absurd e.symm h2
rcases Zuy.1 h2 with k | k
exact .inl k
refine .inr ⟨k,?_⟩
rcases h3 with h3 | h3
exact absurd k.symm h3
omega
exact .inl (by omega)
rintro (h | ⟨h1,h2 | ⟨h3,h4⟩⟩) k
rcases k with k | ⟨k1,_⟩<;>omega
rcases k with k | ⟨_,k2 | ⟨k3,_⟩⟩
omega
exact ZiZ h2 k2
rw [k3] at h2
exact ZaE _ h2
rcases k with k | ⟨_,k2 | ⟨_,k4⟩⟩
omega
rw [h3] at k2
exact ZaE _ k2
omega}
theorem kLt_ord:Ord kLt:=⟨fun a b h=>decide_eq_false (Zuz (of_decide_eq_true h)),fun a b c h k=>decide_eq_false (by
 have h1:=Zi0.1 (of_decide_eq_false h)
 have h2:=Zi0.1 (of_decide_eq_false k)
 refine Zi0.2 ?_
 rcases h1 with h1 | ⟨h1,h3⟩
 rcases h2 with h2 | ⟨h2,_⟩<;>exact .inl (by omega)
 rcases h2 with h2 | ⟨h2,h4⟩
 exact .inl (by omega)
 refine .inr ⟨by omega,?_⟩
 rcases h3 with h3 | ⟨h3,h5⟩
 rcases h4 with h4 | ⟨h4,_⟩
 exact .inl (Zgq h3 h4)
 rw [<- h4]
 exact .inl h3
 rcases h4 with h4 | ⟨h4,h6⟩
 rw [h3]
 exact .inl h4
 exact .inr ⟨h3.trans h4,by omega⟩)⟩
theorem Ord.of {α β:Type} {lt:β->β->Bool} (o:Ord lt) (f:α->β):Ord fun a b=>lt (f a) (f b):=⟨fun a b=>o.asym _ _,fun a b c=>o.tr _ _ _⟩
theorem Zpl {α:Type} {x:Option α} {v:α} (h:Tot x fun r=>r=v):x=some v:=by
 obtain ⟨w,h1,h2⟩:=h
 rw [h1,h2]
theorem ZmI (x y:Int):Za6 x y=some (Lib.compareInt x y):=by{
have e:∀ z:Int,Zb1 z=some false:=fun z=>by
 unfold Zb1
 simp
unfold Za6 Lib.compareInt
rw [e,e,Option.bind_some,Option.bind_some]
by_cases h1:x<y
simp [h1]
by_cases h2:y<x
simp [h1,h2]
simp [h1,h2]}
theorem ZAc (l:List Int) (hl:l.length<=1000):Zeq l=some (orI l):=by{
refine Zpl ?_
unfold Zeq
refine Zr (fun i:Int=>∃ n:Nat,i=n/\n<=l.length/\orI l=orI (l.drop n)) (fun i=>((l.length:Int)-i).toNat) ⟨0,rfl,Nat.zero_le _,by simp⟩ (by first | omega | (dsimp only;omega)) ?_
rintro i rec ⟨n,rfl,hn,he⟩ ih
refine Zd (fun h=>?_) fun h=>?_
refine Zq (by omega) h fun e _ hg=>?_
have hlt:n<l.length:=by omega
rw [Int.toNat_natCast,List.getElem?_eq_getElem hlt] at hg
injection hg with hg
have hd:l.drop n=e::l.drop (n+1):=by rw [List.drop_eq_getElem_cons hlt,hg]
rw [hd] at he
refine Zak (fun hne=>Zc ?_) fun h0=>?_
rw [he]
show e=if e=0 then _ else e
rw [if_neg hne]
refine ih _ ⟨n+1,(Zn).trans (by omega),by omega,?_⟩ ?_
rw [he]
show (if e=0 then _ else e)=_
rw [if_pos h0]
rw [Zn]
omega
have hd:l.drop n = []:=List.drop_eq_nil_of_le (by omega)
rw [hd] at he
exact Zc he.symm}
theorem Zky (a b:Title):Zbd a b=some (Title.cmp a b):=by
 unfold Zbd strings_Compare
 rw [ZmI,Option.bind_some,Option.bind_some,ZAc _ (by simp),Option.bind_some]
 rfl
theorem Zpm:Zo5 Zbd Zyl:=fun a b=>Zwl (Zky a b) rfl
theorem ZzJ (a b:Title):Title.cmp a b=0↔a=b:=by{
constructor
intro h
by_cases e:a=b
exact e
exfalso
rw [Znp] at h
split at h
cases h
split at h
cases h
split at h
cases h
split at h
rename_i h1 h2 h3 h4
exact e (Zn5 (by omega) (Zn4 h4))
cases h
rintro rfl
rw [Znp]
have h3:¬ Op.bytesLess a.name.toList a.name.toList=true:=fun h=>ZhH a.name h
rw [if_neg (by omega),if_neg (by omega),if_neg h3,if_pos rfl]}
def Zyo (x:Num):KeyF:=⟨x.seq,x.item.title,x.item.number⟩
def nLt (x y:Num):Bool:=kLt (Zyo x) (Zyo y)
theorem nLt_ord:Ord nLt:=kLt_ord.of Zyo
theorem ZsA (x y:Num):ZaN x y=some (orI [Lib.compareInt x.seq y.seq,Title.cmp x.item.title y.item.title,Lib.compareInt x.item.number y.item.number]):=by
 unfold ZaN
 rw [ZmI,ZmI,Zky,Option.bind_some,Option.bind_some,Option.bind_some,ZAc _ (by simp),Option.bind_some]
theorem ZsB:Zo5 ZaN nLt:=fun x y=>Zwl (ZsA x y) (by
 unfold nLt kLt Zv8 Zyo
 dsimp only
 apply decide_eq_decide.2
 show (if Lib.compareInt x.seq y.seq=0 then (if Title.cmp x.item.title y.item.title=0 then (if Lib.compareInt x.item.number y.item.number=0 then 0 else Lib.compareInt x.item.number y.item.number) else Title.cmp x.item.title y.item.title) else Lib.compareInt x.seq y.seq)<0↔_
 have hc:∀ a b:Int,(Lib.compareInt a b=0↔a=b)/\(Lib.compareInt a b<0↔a<b):=fun a b=>by
  unfold Lib.compareInt
  split
  constructor<;>constructor<;>intro h<;>omega
  split
  constructor<;>constructor<;>intro h<;>omega
  constructor<;>constructor<;>intro h<;>omega
 obtain ⟨s1,s2⟩:=hc x.seq y.seq
 obtain ⟨n1,n2⟩:=hc x.item.number y.item.number
 have t1:=ZzJ x.item.title y.item.title
 by_cases hs:x.seq=y.seq
 rw [if_pos (s1.2 hs)]
 by_cases ht:x.item.title=y.item.title
 rw [if_pos (t1.2 ht)]
 by_cases hn:x.item.number=y.item.number
 rw [if_pos (n1.2 hn)]
 constructor
 intro h
 omega
 rintro (h | ⟨_,h | ⟨_,h⟩⟩)
 omega
 rw [ht] at h
 exact absurd h (ZaE _)
 omega
 rw [if_neg (fun h=>hn (n1.1 h))]
 constructor
 intro h
 exact .inr ⟨hs,.inr ⟨ht,n2.1 h⟩⟩
 rintro (h | ⟨_,h | ⟨_,h⟩⟩)
 omega
 rw [ht] at h
 exact absurd h (ZaE _)
 exact n2.2 h
 rw [if_neg (fun h=>ht (t1.1 h))]
 constructor
 intro h
 exact .inr ⟨hs,.inl h⟩
 rintro (h | ⟨_,h | ⟨h,_⟩⟩)
 omega
 exact h
 exact absurd h ht
 rw [if_neg (fun h=>hs (s1.1 h))]
 constructor
 intro h
 exact .inl (s2.1 h)
 rintro (h | ⟨h,_⟩)
 exact s2.2 h
 exact absurd h hs)
theorem Zyp:∀ f,ZD f=ZuD ZaN f
 | 0=>rfl
 | f+1=>by
   funext p0 p1 p2 p3
   rw [ZD,Zyp f,ZuD]
   rfl
theorem Zyq (l:List Num) (n:Int):ZT l n=ZwN ZaN l n:=by
 unfold ZT
 rw [Zyp]
 rfl
theorem ZuG (l:List Num) (hl:l.length<=100000):Tot (ZQ l) fun r=>r.Perm l/\Srt nLt r:=by{
unfold ZQ
refine Zh (Q:=fun r=>r.Perm l/\Srt nLt r) ?_ fun r hr=>Zc hr
rw [Zyq]
exact ZwO nLt_ord ZsB l hl rfl}
theorem Zyr:ZX=Zzs Zbd:=rfl
theorem ZwE:(List.range 13).all (fun n=>(ZcH (IntKind.wrap .u64 (n:Int))).isSome)=true:=by kernel_rfl
theorem ZzK (n:Nat) (h:n<=12):Tot (ZcH (IntKind.wrap .u64 (n:Int))) fun _=>True:=by
 have:=List.all_eq_true.1 ZwE n (List.mem_range.2 (by omega))
 obtain ⟨v,hv⟩:=Option.isSome_iff_exists.1 this
 exact ⟨v,hv,trivial⟩
theorem ZwF (l:List Title) (hl:l.length<=12):Tot (ZaK l) fun r=>r.Perm l/\Srt Zyl r:=by{
unfold ZaK
refine Zh (ZzK l.length hl) fun k _=>?_
refine Zh (Q:=fun r=>r.Perm l/\Srt Zyl r) ?_ fun r hr=>Zc hr
unfold Zau
refine Zr (fun _=>True) (fun _=>0) trivial (by omega) ?_
rintro _ rec _ _
rw [Zn]
refine Zd (fun _=>?_) fun h=>absurd (by omega) h
refine Zh (Q:=fun r=>∃ Z,r = []++(Z ++ [])/\Z.Perm l/\Srt Zyl Z) (by
 have:=Zug Zv7 Zpm [] l [] (by simp;omega) (a:=0) (b:=(l.length:Int)) rfl (by simp)
 rw [Zyr]
 simpa using this) fun r hr=>?_
obtain ⟨Z,rfl,h2,h3⟩:=hr
rw [List.nil_append,List.append_nil]
exact Zc ⟨h2,h3⟩}
theorem ZsC (l:List Title) (hl:l.length<=1000000) (h:l.Nodup):ZaW l=some l:=by{
refine Zpl ?_
unfold ZaW
refine Zd (fun _=>Zc rfl) fun h2=>?_
refine Zr (fun i:Int=>1<=i/\i<=(l.length:Int)) (fun i=>((l.length:Int)-i).toNat) ⟨by omega,by omega⟩ (by first | omega | (dsimp only;omega)) ?_
rintro i rec ⟨h0,h1⟩ ih
refine Zd (fun hlt=>?_) fun _=>Zc rfl
refine Zq (by omega) hlt fun e _ he=>?_
rw [Zn]
refine Zq (by omega) (by omega) fun e2 _ he2=>?_
refine Zd (fun heq=>?_) fun _=>?_
exfalso
subst heq
have:=(List.getElem?_inj (i:=i.toNat) (j:=(i-1).toNat) (by omega) h).1 (he.trans he2.symm)
omega
rw [Zn]
exact ih _ ⟨by omega,by omega⟩ (by omega)}
theorem Zwc (l:List Title) (hl:l.length<=12) (h:l.Nodup):Tot (Zfn l) fun r=>r.Perm l/\Srt Zyl r:=by
 unfold Zfn
 refine Zh (ZwF l hl) fun r hr=>?_
 refine Za (ZsC r (by rw [hr.1.length_eq];omega) (hr.1.nodup_iff.2 h)) (Zc hr)
end
end Go.Proofs.YtpdaeclbndpabaaGreatDoor
