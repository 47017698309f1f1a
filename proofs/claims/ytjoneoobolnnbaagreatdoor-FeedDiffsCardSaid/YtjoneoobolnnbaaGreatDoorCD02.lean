/- The difference of two revisions at made states: by which texts, and who gets it. No program is .. -/
import Derived.Test.YtjoneoobolnnbaaGreatDoorCB34
import Derived.Test.YtjoneoobolnnbaaGreatDoorCD01
import Derived.Lib.SplitLaws
set_option linter.unusedVariables false
namespace Go.Proofs.YtjoneoobolnnbaaGreatDoor
open VL
def Zft (l:List Stored) (t:Title):Stored×Bool:=match l.find? (fun p=>decide (p.title=t)) with
 | some p=>(p,true)
 | none=>(⟨⟨0,⟨#[]⟩⟩,[]⟩,false)
theorem Zgr (l:List Stored) (t:Title):(Zft l t).1.history=ZC l t:=by
 unfold Zft ZC
 cases l.find? (fun p=>decide (p.title=t))<;>rfl
theorem Zis (l:List Stored) (t:Title):(Zft l t).2=l.any (fun p=>decide (p.title=t)):=by
 unfold Zft
 cases h:l.find? (fun p=>decide (p.title=t)) with
 | none=>
   have:=List.find?_eq_none.1 h
   exact (List.any_eq_false.2 this).symm
 | some p=>
   have h1:=List.mem_of_find?_eq_some h
   have h2:=List.find?_some h
   exact (List.any_eq_true.2 ⟨p,h1,h2⟩).symm
theorem ZqO {l:List Stored} {t:Title} {i:Nat} {e:Stored} (h:∀ (j:Nat) p,j<i→l[j]? = some p→p.title≠t) (he:l[i]? = some e) (ht:e.title=t):l.find? (fun p=>decide (p.title=t))=some e:=by
 obtain ⟨hl,rfl⟩:=List.getElem?_eq_some_iff.1 he
 conv=>lhs;rw [← List.take_append_drop i l,List.drop_eq_getElem_cons hl]
 rw [List.find?_append,List.find?_eq_none.2,Option.none_or,List.find?_cons_of_pos (by simpa using ht)]
 intro p hp
 obtain ⟨j,hj⟩:=List.getElem?_of_mem hp
 have hji:=(List.getElem?_eq_some_iff.1 hj).1
 rw [List.length_take] at hji
 rw [List.getElem?_take_of_lt (by omega)] at hj
 simpa using h j p (by omega) hj
theorem Zmi (s:State) (t:Title) (hl:s.pages.length≤1000000) (hh:∀ p ∈ s.pages,1≤p.history.length∧p.history.length≤1000000):Zbr s t=some (Zft s.pages t):=by
 refine ZV ?_
 unfold Zbr
 refine Zj (fun i:Int=>(0≤i∧i≤(s.pages.length:Int))∧∀ (j:Nat) p,(j:Int)<i→s.pages[j]? = some p→p.title≠t) (fun i=>((s.pages.length:Int) - i).toNat) ⟨⟨by omega,by omega⟩,fun j p h=>by omega⟩ (by first | omega | (dsimp only;omega)) ?_
 rintro i rec ⟨⟨h0,h1⟩,h2⟩ ih
 refine Zc (fun hlt=>?_) fun hlt=>?_
 ·refine Zl h0 hlt fun e he hg=>?_
  refine Zc (fun ht=>?_) fun ht=>?_
  ·refine Za (v:=e) ?_ (Zb ?_)
   ·unfold ZcV
    rw [Zra _ (hh e he).1 (hh e he).2]
    rfl
   ·unfold Zft
    rw [ZqO (fun j p hj hp=>h2 j p (by omega) hp) hg ht]
  ·rw [Zg (by omega) (by omega)]
   refine ih _ ⟨⟨by omega,by omega⟩,fun j p hj hp=>?_⟩ (by omega)
   by_cases hji:(j:Int)<i
   ·exact h2 j p hji hp
   ·rw [show i.toNat=j by omega,hp] at hg
    injection hg with hg
    rw [hg]
    exact ht
 ·refine Zb ?_
  unfold Zft
  rw [List.find?_eq_none.2]
  intro p hp
  obtain ⟨j,hj,rfl⟩:=List.getElem_of_mem hp
  simpa using h2 j _ (by omega) (List.getElem?_eq_getElem hj)
def Zmj (h:List Revision) (n:Int):Revision×Bool:=match h.find? (fun r=>decide (r.number=n)) with
 | some r=>(r,true)
 | none=>(⟨0,⟨#[]⟩,⟨#[]⟩,⟨#[]⟩,0,0⟩,false)
theorem ZlE {l:List Revision} {n:Int} {i:Nat} {e:Revision} (h:∀ (j:Nat) p,j<i→l[j]? = some p→p.number≠n) (he:l[i]? = some e) (ht:e.number=n):l.find? (fun p=>decide (p.number=n))=some e:=by
 obtain ⟨hl,rfl⟩:=List.getElem?_eq_some_iff.1 he
 conv=>lhs;rw [← List.take_append_drop i l,List.drop_eq_getElem_cons hl]
 rw [List.find?_append,List.find?_eq_none.2,Option.none_or,List.find?_cons_of_pos (by simpa using ht)]
 intro p hp
 obtain ⟨j,hj⟩:=List.getElem?_of_mem hp
 have hji:=(List.getElem?_eq_some_iff.1 hj).1
 rw [List.length_take] at hji
 rw [List.getElem?_take_of_lt (by omega)] at hj
 simpa using h j p (by omega) hj
theorem Zmk (h:List Revision) (n:Int) (hl:h.length≤1000000):ZE Zaj (fun f2 (x11:Int)=>if decide (x11<(h.length:Int))=true then (atI h x11).bind fun e15=>if decide (e15.number=n)=true then some (e15,true) else f2 (w64 (x11+1)) else some ((⟨0,(⟨#[]⟩:ByteArray),(⟨#[]⟩:ByteArray),(⟨#[]⟩:ByteArray),0,0⟩:Revision),false)) 0=some (Zmj h n):=by
 refine ZV ?_
 refine Zj (fun i:Int=>(0≤i∧i≤(h.length:Int))∧∀ (j:Nat) p,(j:Int)<i→h[j]? = some p→p.number≠n) (fun i=>((h.length:Int) - i).toNat) ⟨⟨by omega,by omega⟩,fun j p h=>by omega⟩ (by first | omega | (dsimp only;omega)) ?_
 rintro i rec ⟨⟨h0,h1⟩,h2⟩ ih
 refine Zc (fun hlt=>?_) fun hlt=>?_
 ·refine Zl h0 hlt fun e he hg=>?_
  refine Zc (fun ht=>Zb ?_) fun ht=>?_
  ·unfold Zmj
   rw [ZlE (fun j p hj hp=>h2 j p (by omega) hp) hg ht]
  ·rw [Zg (by omega) (by omega)]
   refine ih _ ⟨⟨by omega,by omega⟩,fun j p hj hp=>?_⟩ (by omega)
   by_cases hji:(j:Int)<i
   ·exact h2 j p hji hp
   ·rw [show i.toNat=j by omega,hp] at hg
    injection hg with hg
    rw [hg]
    exact ht
 ·refine Zb ?_
  unfold Zmj
  rw [List.find?_eq_none.2]
  intro p hp
  obtain ⟨j,hj,rfl⟩:=List.getElem_of_mem hp
  simpa using h2 j _ (by omega) (List.getElem?_eq_getElem hj)
def Zjb (h:List Revision) (n:Int):ByteArray×Bool:=if n=0 then (⟨#[]⟩,true) else ((Zmj h n).1.text,(Zmj h n).2)
theorem Zkz {l:List Stored} {m:Nat} (h:∀ p ∈ l,p.history.length≤m) (t:Title):(ZC l t).length≤m:=by
 unfold ZC
 cases hf:l.find? (fun p=>decide (p.title=t)) with
 | none=>exact Nat.zero_le _
 | some p=>exact h p (List.mem_of_find?_eq_some hf)
theorem ZhO {s:State} (hl:s.pages.length≤1000000) (hh:∀ p ∈ s.pages,1≤p.history.length∧p.history.length≤1000000) (t:Title) (n:Int):ZaM s t n=some (Zjb (ZC s.pages t) n):=by
 unfold ZaM Zjb
 by_cases h:n=0
 ·rw [if_pos (decide_eq_true h),if_pos h]
 ·rw [if_neg (by simpa using h),if_neg h]
  unfold Zdc
  rw [Zmi s t hl hh,Option.bind_some,Zgr]
  have:=Zkz (fun p hp=>(hh p hp).2) t
  have e:=Zmk (ZC s.pages t) n this
  rw [e]
  rfl
def ZqP (may there:Bool) (h:List Revision) (a b:Int):Option (List Edit×Int):=
 if may=false then some ([],10) else if (there&&(Zjb h a).2&&(Zjb h b).2)=true then (Zdy (Zjb h a).1 (Zjb h b).1).bind fun r=>some (r,0) else some ([],4)
theorem Ziv {s:State} {m:Int} {u:ByteArray} {P:Policy} {G:List ByteArray} (hs:MadeK s m) (hR:RdAt s u P G) (hu:u ∈ usersG) (t:Title) (ht:t ∈ ZaJ) (a b:Int):Zb2 s u t a b=ZqP (ZiO P G 1 t) (s.pages.any (fun p=>decide (p.title=t))) (ZC s.pages t) a b:=by
 obtain ⟨t0,_,hv⟩:=hs.1.ex
 have hl:=hv.plen
 have hh:=Zrb hv
 have hr:=(ZiD _ hR.pol).1
 have hval:t.valid=true:=(show ∀ t ∈ ZaJ,t.valid=true by decide +kernel) t ht
 have hname:u=⟨#[]⟩∨Zbl u=true:=(show ∀ u ∈ usersG,u=⟨#[]⟩∨Zbl u=true by decide +kernel) u hu
 unfold Zb2 letk Zdn Zcn
 rw [hR.prog,Zmi s t (by omega) hh,ZhO (by omega) hh,ZhO (by omega) hh,hval]
 simp only [Option.bind_some]
 have e1:Zbp P u=some G:=hR.gprog
 have e2:ZbY P G 1 t=some (ZiO P G 1 t):=by unfold ZbY;rw [if_pos (by omega)]
 rw [e1]
 simp only [Option.bind_some]
 rw [e2,Zis]
 simp only [Option.bind_some]
 unfold ZqP
 have hcond:∀ (X Y:Option (List Edit×Int)),(if (!decide (u=(⟨#[]⟩:ByteArray)))=true then (if (!Zbl u)=true then X else Y) else Y)=Y:=fun X Y=>by
  rcases hname with h | h
  ·simp [h]
  ·simp [h]
 cases ZiO P G 1 t<;>cases s.pages.any (fun p=>decide (p.title=t))<;>cases (Zjb (ZC s.pages t) a).2<;>cases (Zjb (ZC s.pages t) b).2<;>simp
 all_goals
  rcases hname with h | h<;>simp [h]
def Zbu:Nat→List UInt8→List (List UInt8)
 | 0,l=>if l = [] then [] else [l]
 | k+1,l=>if Lib.indexByte l 10 = -1 then (if l = [] then [] else [l]) else l.take ((Lib.indexByte l 10).toNat+1)::Zbu k (l.drop ((Lib.indexByte l 10).toNat+1))
theorem ZgO:∀ (k:Nat) (l:List UInt8),(Zbu k l).flatten=l
 | 0,l=>by
   unfold Zbu
   split
   ·rename_i h;rw [h];rfl
   ·simp
 | k+1,l=>by
   unfold Zbu
   split
   ·split
    ·rename_i h;rw [h];rfl
    ·simp
   ·rw [List.flatten_cons,ZgO k,List.take_append_drop]
theorem Zgh:∀ (k:Nat) (l:List UInt8),(Zbu k l).length≤k+1
 | 0,l=>by
   unfold Zbu
   split<;>simp
 | k+1,l=>by
   unfold Zbu
   split
   ·split<;>simp
   ·have:=Zgh k (l.drop ((Lib.indexByte l 10).toNat+1))
    simp only [List.length_cons]
    omega
def ba (l:List UInt8):ByteArray:=⟨l.toArray⟩
theorem Zn2 (l:List UInt8):(ba l).size=l.length:=rfl
def lns (s:ByteArray):List ByteArray:=(Zbu (s.data.toList.count 10) s.data.toList).map ba
theorem Zfp:∀ (k:Nat) (l:List UInt8),l.count 10=k→∃ e,(Lib.splitK [10] 1 k l).getLast? = some e∧(Lib.splitK [10] 1 k l).length=k+1∧Zbu k l=(Lib.splitK [10] 1 k l).take (k+min 1 e.length)
 | 0,l,hk=>by
   refine ⟨l,rfl,rfl,?_⟩
   unfold Zbu Lib.splitK
   by_cases h:l = []
   ·rw [if_pos h,h];rfl
   ·rw [if_neg h]
    have:1≤l.length:=List.length_pos_iff.2 h
    rw [show 0+min 1 l.length=1 by omega]
    rfl
 | k+1,l,hk=>by
   have hidx:Lib.index l [10]=Lib.indexByte l 10:=Lib.index_one l 10
   have hne:Lib.indexByte l 10≠-1:=fun h=>by
    have:=Lib.indexByte_none h
    have hm:(10:UInt8) ∈ l:=List.count_pos_iff.1 (by omega)
    obtain ⟨j,hj⟩:=List.getElem?_of_mem hm
    exact this j hj
   have hge:=Lib.indexByte_ge l 10
   obtain ⟨i,hi⟩:∃ i:Nat,Lib.indexByte l 10=i:=⟨(Lib.indexByte l 10).toNat,by omega⟩
   obtain ⟨h1,h2⟩:=Lib.indexByte_some hi
   have hil:=(List.getElem?_eq_some_iff.1 h1).1
   have hcount:(l.drop (i+1)).count 10=k:=by
    have e:l=l.take i++10::l.drop (i+1):=by
     conv=>lhs;rw [← List.take_append_drop i l,List.drop_eq_getElem_cons hil]
     rw [(List.getElem?_eq_some_iff.1 h1).2]
    have hz:(l.take i).count 10=0:=List.count_eq_zero.2 fun hm=>by
     obtain ⟨j,hj⟩:=List.getElem?_of_mem hm
     have hji:=(List.getElem?_eq_some_iff.1 hj).1
     rw [List.length_take] at hji
     rw [List.getElem?_take_of_lt (by omega)] at hj
     exact h2 j (by omega) hj
    rw [e,List.count_append,hz,List.count_cons_self] at hk
    omega
   obtain ⟨e,e1,e2,e3⟩:=Zfp k (l.drop (i+1)) hcount
   have hs:Lib.splitK [10] 1 (k+1) l=l.take (i+1)::Lib.splitK [10] 1 k (l.drop (i+1)):=by
    rw [Lib.splitK,hidx,hi]
    rw [if_neg (by simp)]
    rfl
   refine ⟨e,?_,by rw [hs,List.length_cons,e2],?_⟩
   ·rw [hs,List.getLast?_cons,e1]
    rfl
   ·rw [hs,Zbu,if_neg hne,hi]
    rw [show k+1+min 1 e.length=(k+min 1 e.length)+1 by omega,List.take_succ_cons,Int.toNat_natCast,e3]
theorem Zqu (s:ByteArray):Lib.countB s ⟨#[10]⟩=s.data.toList.count 10:=by
 show Lib.count s.data.toList [10]=_
 exact Lib.count_one 10 s.data.toList
theorem Zl2 (s:ByteArray) (h:s.size≤1000000):Zdq s=some (lns s):=by
 have hc:Lib.countB s ⟨#[10]⟩≤1000000:=by
  have:=Lib.countB_le ⟨#[10]⟩ (by decide) s.size s (Nat.le_refl _)
  omega
 refine ZV ?_
 unfold Zdq
 refine Za (v:=Lib.splitB ⟨#[10]⟩ 1 (Lib.countB s ⟨#[10]⟩) s) ?_ ?_
 ·unfold ZbJ strings_genSplit
  rw [if_pos ⟨⟨by omega,by decide⟩,hc,rfl,by decide,by decide⟩]
  rfl
 ·have hd:=Lib.splitB_data ⟨#[10]⟩ 1 (Lib.countB s ⟨#[10]⟩) s
  obtain ⟨e,e1,e2,e3⟩:=Zfp _ s.data.toList rfl
  rw [Zqu] at hd hc ⊢
  change List.map _ _=Lib.splitK [10] 1 _ _ at hd
  generalize hR:Lib.splitB ⟨#[10]⟩ 1 (s.data.toList.count 10) s=R at *
  have hRe:R=(Lib.splitK [10] 1 (s.data.toList.count 10) s.data.toList).map ba:=by
   rw [← hd,List.map_map]
   have:(ba∘fun x:ByteArray=>x.data.toList)=id:=by funext x;rfl
   rw [this,List.map_id]
  generalize hK:s.data.toList.count 10=k at *
  have hlen:R.length=k+1:=by rw [hRe,List.length_map,e2]
  rw [Zg (by omega) (by omega)]
  refine Zl (by omega) (by omega) fun x _ hx=>?_
  have hx2:x=ba e:=by
   rw [List.getLast?_eq_getElem?] at e1
   have hidx:((R.length:Int) - 1).toNat=(Lib.splitK [10] 1 k s.data.toList).length - 1:=by omega
   rw [hidx,hRe,List.getElem?_map,e1] at hx
   injection hx with hx
   exact hx.symm
  have hsz:(x.size:Int)=e.length:=by rw [hx2,Zn2]
  have hmin:(if (x.size:Int)<1 then (x.size:Int) else 1)=((min 1 e.length:Nat):Int):=by
   rw [hsz]
   split<;>omega
  rw [hmin,Zg (by omega) (by omega)]
  refine Zfc (Int.le_refl _) (by omega) (by omega) fun m hm _=>Zb ?_
  rw [hm]
  unfold lns
  rw [hK,e3,List.map_take,← hRe]
  simp only [Int.toNat_zero,List.drop_zero,Nat.sub_zero]
  congr 1
  omega
theorem ZsL (s:ByteArray) (h:s.size≤1000000):ZhG s=some (lns s):=by
 refine ZV ?_
 unfold ZhG
 have key:∀ (l:List UInt8) (i:Nat),Lib.indexByte l 10=i→Zbu (l.count 10) l=l.take (i+1)::Zbu ((l.drop (i+1)).count 10) (l.drop (i+1)):=fun l i hi=>by
  obtain ⟨h1,h2⟩:=Lib.indexByte_some hi
  have hil:=(List.getElem?_eq_some_iff.1 h1).1
  have e:l=l.take i++10::l.drop (i+1):=by
   conv=>lhs;rw [← List.take_append_drop i l,List.drop_eq_getElem_cons hil]
   rw [(List.getElem?_eq_some_iff.1 h1).2]
  have hz:(l.take i).count 10=0:=List.count_eq_zero.2 fun hm=>by
   obtain ⟨j,hj⟩:=List.getElem?_of_mem hm
   have hji:=(List.getElem?_eq_some_iff.1 hj).1
   rw [List.length_take] at hji
   rw [List.getElem?_take_of_lt (by omega)] at hj
   exact h2 j (by omega) hj
  have hk:l.count 10=(l.drop (i+1)).count 10+1:=by
   conv=>lhs;rw [e]
   rw [List.count_append,hz,List.count_cons_self]
   omega
  rw [hk,Zbu,if_neg (by omega),hi,Int.toNat_natCast]
 have none_:∀ (l:List UInt8),(10:UInt8) ∉ l→Zbu (l.count 10) l=if l = [] then [] else [l]:=fun l hl=>by
  rw [List.count_eq_zero.2 hl]
  rfl
 refine Zj (fun a:Int×Int×List ByteArray=>∃ f i:Nat,a.1=f∧a.2.1=i∧f≤i∧i≤s.size∧a.2.2.length≤i∧(10:UInt8) ∉ (s.data.toList.drop f).take (i - f)∧a.2.2++(Zbu ((s.data.toList.drop f).count 10) (s.data.toList.drop f)).map ba=lns s) (fun a=>((s.size:Int) - a.2.1).toNat) ⟨0,0,rfl,rfl,Nat.le_refl _,Nat.zero_le _,Nat.le_refl _,by simp,rfl⟩ (by first | omega | (dsimp only;omega)) ?_
 rintro ⟨x,y,out⟩ rec ⟨f,i,e1,e2,h1,h2,h3,h4,h5⟩ ih
 dsimp only at e1 e2 h3 h5 ⊢
 subst e1 e2
 have hsz:s.data.toList.length=s.size:=(Lib.size_eq _).symm
 refine Zc (fun hlt=>?_) fun hlt=>?_
 ·refine Zx (fun k=>(∀ out':List ByteArray,out'.length≤i+1→out'++(Zbu ((s.data.toList.drop (i+1)).count 10) (s.data.toList.drop (i+1))).map ba=lns s→Tot (k ((i:Int)+1) out') fun r=>r=lns s)∧((10:UInt8) ∉ (s.data.toList.drop f).take (i+1 - f)→Tot (k (f:Int) out) fun r=>r=lns s))
   ⟨fun out' hl' h'=>ih _ ⟨i+1,i+1,by dsimp only;omega,by dsimp only;rw [Zg (by omega) (by omega)];omega,Nat.le_refl _,by omega,hl',by simp,h'⟩ (by dsimp only;rw [Zg (by omega) (by omega)];omega),
    fun h'=>ih _ ⟨f,i+1,rfl,by dsimp only;rw [Zg (by omega) (by omega)];omega,by omega,by omega,by dsimp only;omega,h',h5⟩ (by dsimp only;rw [Zg (by omega) (by omega)];omega)⟩ fun k hk=>?_
  have hil:i<s.data.toList.length:=by omega
  refine ZxW (by omega) hlt fun c hc0 hc1 hc=>?_
  have hci:c=(s.data.toList[i].toNat:Int):=by
   have:=ZnU (s:=s) (n:=i) (by omega)
   rw [this] at hc
   injection hc with hc
   rw [← hc]
   rfl
  have hstep:(s.data.toList.drop f).take (i+1 - f)=(s.data.toList.drop f).take (i - f) ++ [s.data.toList[i]]:=by
   rw [show i+1 - f=(i - f)+1 by omega,List.take_add_one,List.getElem?_drop,show f+(i - f)=i by omega,List.getElem?_eq_getElem hil]
   rfl
  refine Zc (fun h10=>?_) fun h10=>?_
  ·have hb:s.data.toList[i]=10:=UInt8.toNat_inj.1 (by have:=hci.symm.trans h10;show s.data.toList[i].toNat=10;omega)
   rw [Zg (by omega) (by omega)]
   refine Zr6 (by omega) (by omega) (by omega) fun m hm _=>?_
   refine ZK 2000000 (by show out.length+1≤2000000;omega) (by decide) (by decide) ?_
   refine hk.1 _ (by rw [List.length_append];show out.length+1≤i+1;omega) ?_
   have hidx:Lib.indexByte (s.data.toList.drop f) 10=((i - f:Nat):Int):=by
    have hge:=Lib.indexByte_ge (s.data.toList.drop f) 10
    have hat:(s.data.toList.drop f)[i - f]? = some 10:=by rw [List.getElem?_drop,show f+(i - f)=i by omega,List.getElem?_eq_getElem hil,hb]
    by_cases hm1:Lib.indexByte (s.data.toList.drop f) 10 = -1
    ·exact absurd hat (Lib.indexByte_none hm1 _)
    ·obtain ⟨o,ho⟩:∃ o:Nat,Lib.indexByte (s.data.toList.drop f) 10=o:=⟨(Lib.indexByte (s.data.toList.drop f) 10).toNat,by omega⟩
     obtain ⟨g1,g2⟩:=Lib.indexByte_some ho
     rw [ho]
     rcases Nat.lt_trichotomy o (i - f) with c | c | c
     ·exfalso
      refine h4 (List.mem_of_getElem? (i:=o) ?_)
      rw [List.getElem?_take_of_lt c]
      exact g1
     ·rw [c]
     ·exact absurd hat (g2 _ c)
   have hkey:=key _ _ hidx
   rw [hkey,List.map_cons] at h5
   rw [List.drop_drop,show f+(i - f+1)=i+1 by omega] at h5
   rw [← h5,List.append_assoc]
   congr 2
   rw [hm,List.singleton_append]
   congr 1
   rw [Lib.extract_eq,Int.toNat_natCast,show ((i:Int)+1).toNat - f=i - f+1 by omega]
   rfl
  ·refine hk.2 ?_
   rw [hstep]
   intro hm
   rcases List.mem_append.1 hm with hm | hm
   ·exact h4 hm
   ·rw [List.mem_singleton] at hm
    apply h10
    rw [hci,← hm]
    rfl
 ·have hie:i=s.size:=by omega
  subst hie
  have hno:(10:UInt8) ∉ s.data.toList.drop f:=by
   rw [List.take_of_length_le (by rw [List.length_drop];omega)] at h4
   exact h4
  rw [none_ _ hno] at h5
  refine ZJ ?_
  refine Zc (fun hf=>?_) fun hf=>Zb ?_
  ·refine Zr6 (by omega) (by omega) (Int.le_refl _) fun m hm _=>?_
   refine ZK 2000000 (by show out.length+1≤2000000;omega) (by decide) (by decide) (Zb ?_)
   rw [if_neg (fun e=>by have:=congrArg List.length e;rw [List.length_drop] at this;simp at this;omega)] at h5
   rw [← h5]
   congr 1
   rw [hm]
   rw [Lib.extract_eq,Int.toNat_natCast,Int.toNat_natCast,List.take_of_length_le (by rw [List.length_drop];omega)]
   rfl
  ·rw [if_pos (List.drop_eq_nil_of_le (by omega))] at h5
   simpa using h5
theorem Zmc {b n:Nat} {m:Int} (hm:m=n) (h:n * b≤140737488355328) (h2:n≤9223372036854775807):Zn7 b m=some ():=by
 subst hm
 unfold Zn7
 rw [if_pos (by omega)]
theorem Zoc (x y:List ByteArray) (hx:x.length≤1000) (hy:y.length≤1000):Tot (Zdg x y) fun T=>T.length=x.length+1∧∀ r ∈ T,r.length=y.length+1:=by
 unfold Zdg
 rw [Zg (n:=(x.length:Int)+1) (by omega) (by omega),Zg (n:=(y.length:Int)+1) (by omega) (by omega),Zg (n:=(x.length:Int) - 1) (by omega) (by omega),Zg (n:=(y.length:Int) - 1) (by omega) (by omega)]
 refine Za (v:=()) (Zmc (n:=x.length+1) (by omega) (by omega) (by omega)) ?_
 refine Za (v:=()) (Zmc (n:=y.length+1) (by omega) (by omega) (by omega)) ?_
 have hr1:((x.length:Int)+1).toNat=x.length+1:=by omega
 have hr2:((y.length:Int)+1).toNat=y.length+1:=by omega
 rw [hr1,hr2]
 refine Zl (by omega) (by rw [List.length_replicate];omega) fun _ _ _=>?_
 refine Zj (fun a:Int×List (List Int)=>(-1≤a.1∧a.1<(x.length:Int))∧a.2.length=x.length+1∧∀ (k:Nat) r,a.1<(k:Int)→a.2[k]? = some r→r.length=y.length+1) (fun a=>(a.1+1).toNat)
  ⟨⟨by dsimp only;omega,by dsimp only;omega⟩,by dsimp only;rw [Za8,List.length_replicate],fun k r hk hr=>?_⟩ (by dsimp only;omega) ?_
 ·dsimp only at hk hr
  have hkl:=(List.getElem?_eq_some_iff.1 hr).1
  rw [Za8,List.length_replicate] at hkl
  unfold ZaS at hr
  rw [Int.toNat_natCast,List.getElem?_set,if_pos (by omega),if_pos (by rw [List.length_replicate];omega)] at hr
  injection hr with hr
  rw [← hr,List.length_replicate]
 rintro ⟨i,T⟩ rec ⟨⟨h1,h2⟩,h3,h4⟩ ih
 dsimp only at h1 h2 h3 h4 ⊢
 refine Zc (fun hi=>?_) fun hi=>Zb ⟨h3,fun r hr=>?_⟩
 ·refine Za (v:=()) (Zmc (n:=y.length+1) (by omega) (by omega) (by omega)) ?_
  rw [Zg (n:=i+1) (by omega) (by omega),Zg (n:=i - 1) (by omega) (by omega)]
  refine Zl (by omega) (by omega) fun B _ hB=>?_
  have hBl:=h4 _ B (by omega) hB
  refine Zj (fun a:Int×List Int=>(-1≤a.1∧a.1<(y.length:Int))∧a.2.length=y.length+1) (fun a=>(a.1+1).toNat) ⟨⟨by dsimp only;omega,by dsimp only;omega⟩,by dsimp only;rw [List.length_replicate]⟩ (by dsimp only;omega) ?_
  rintro ⟨j,row⟩ rec2 ⟨⟨g1,g2⟩,g3⟩ ih2
  dsimp only at g1 g2 g3 ⊢
  refine Zc (fun hj=>?_) fun hj=>?_
  ·rw [Zg (n:=j+1) (by omega) (by omega),Zg (n:=j - 1) (by omega) (by omega)]
   refine Zx (fun k=>∀ r:List Int,r.length=y.length+1→Tot (k r) fun T=>T.length=x.length+1∧∀ r ∈ T,r.length=y.length+1) (fun r hr=>ih2 _ ⟨⟨by dsimp only;omega,by dsimp only;omega⟩,hr⟩ (by dsimp only;omega)) fun k hk=>?_
   refine Zl hi h2 fun a _ _=>?_
   refine Zl hj g2 fun b _ _=>?_
   refine Zc (fun _=>?_) fun _=>?_
   ·refine Zl (by omega) (by omega) fun _ _ _=>?_
    refine Zl (by omega) (by omega) fun _ _ _=>?_
    exact hk _ (by rw [Za8];exact g3)
   ·refine Zl (by omega) (by omega) fun _ _ _=>?_
    refine Zl (by omega) (by omega) fun _ _ _=>?_
    refine Zl (by omega) (by omega) fun _ _ _=>?_
    exact hk _ (by rw [Za8];exact g3)
  ·refine Zl hi (by omega) fun _ _ _=>?_
   refine ih _ ⟨⟨by dsimp only;omega,by dsimp only;omega⟩,by dsimp only;rw [Za8];exact h3,fun k r hk hr=>?_⟩ (by dsimp only;omega)
   dsimp only at hk hr
   unfold ZaS at hr
   rw [List.getElem?_set] at hr
   split at hr
   ·rw [if_pos (by omega)] at hr
    injection hr with hr
    rw [← hr]
    exact g3
   ·exact h4 k r (by omega) hr
 ·obtain ⟨k,hk⟩:=List.getElem?_of_mem hr
  exact h4 k r (by omega) hk
def Za7 (l:List Edit):List ByteArray:=l.flatMap fun e=>if e.kind=3 then [] else e.lines
def Zbd (l:List Edit):List ByteArray:=l.flatMap fun e=>if e.kind=2 then [] else e.lines
theorem Zip (l:List Edit) (e:Edit):Za7 (l ++ [e])=Za7 l++if e.kind=3 then [] else e.lines:=by
 unfold Za7
 rw [List.flatMap_append]
 simp
theorem Ziq (l:List Edit) (e:Edit):Zbd (l ++ [e])=Zbd l++if e.kind=2 then [] else e.lines:=by
 unfold Zbd
 rw [List.flatMap_append]
 simp
structure ScrR (x y:List ByteArray) (i j:Nat) (s:Script):Prop where
 kinds:∀ e ∈ s.edits,1≤e.kind∧e.kind≤3
 used:Za7 s.edits++s.deleted++s.kept=x.take i
 came:Zbd s.edits++s.insert++s.kept=y.take j
 one:s.kept = []∨(s.deleted = []∧s.insert = [])
 len:s.edits.length≤3 * (i+j)
theorem Zod (f:Script→Int→List ByteArray→Option Script) (hf:∀ s k l,f s k l=if decide (0<(l.length:Int))=true then (ZcF 32 s.edits [(⟨k,l⟩:Edit)]).bind fun l1=>some ⟨l1,s.deleted,s.insert,s.kept⟩ else some s) (s:Script) (k:Int) (l:List ByteArray) (h:s.edits.length≤1000000) :
  f s k l=some ⟨if l = [] then s.edits else s.edits ++ [⟨k,l⟩],s.deleted,s.insert,s.kept⟩:=by
 rw [hf]
 by_cases hl:l = []
 ·subst hl
  rfl
 ·have:0<(l.length:Int):=by have:=List.length_pos_iff.2 hl;omega
  rw [if_pos (decide_eq_true this),if_neg hl]
  refine ZV (ZK 1000001 (by simp;omega) (by decide) (by decide) (Zb rfl))
theorem ZwT (s:Script) (k:Int) (l:List ByteArray) (h:s.edits.length≤1000000):Zab s k l=some ⟨if l = [] then s.edits else s.edits ++ [⟨k,l⟩],s.deleted,s.insert,s.kept⟩:=Zod _ (fun _ _ _=>rfl) s k l h
theorem ZwU (s:Script) (k:Int) (l:List ByteArray) (h:s.edits.length≤1000000):Zbi s k l=some ⟨if l = [] then s.edits else s.edits ++ [⟨k,l⟩],s.deleted,s.insert,s.kept⟩:=Zod _ (fun _ _ _=>rfl) s k l h
theorem ZwV (s:Script) (k:Int) (l:List ByteArray) (h:s.edits.length≤1000000):Zbj s k l=some ⟨if l = [] then s.edits else s.edits ++ [⟨k,l⟩],s.deleted,s.insert,s.kept⟩:=Zod _ (fun _ _ _=>rfl) s k l h
theorem ZwW (s:Script) (k:Int) (l:List ByteArray) (h:s.edits.length≤1000000):Zbk s k l=some ⟨if l = [] then s.edits else s.edits ++ [⟨k,l⟩],s.deleted,s.insert,s.kept⟩:=Zod _ (fun _ _ _=>rfl) s k l h
def Zdw (l:List Edit) (k:Int) (x:List ByteArray):List Edit:=if x = [] then l else l ++ [⟨k,x⟩]
theorem ZaR (l:List Edit) (k:Int) (x:List ByteArray):(Zdw l k x).length≤l.length+1:=by
 unfold Zdw
 split<;>simp
theorem ZaG (l:List Edit) (k:Int) (x:List ByteArray):Za7 (Zdw l k x)=Za7 l++if k=3 then [] else x:=by
 unfold Zdw
 split
 ·rename_i h;rw [h];simp
 ·exact Zip _ _
theorem ZaH (l:List Edit) (k:Int) (x:List ByteArray):Zbd (Zdw l k x)=Zbd l++if k=2 then [] else x:=by
 unfold Zdw
 split
 ·rename_i h;rw [h];simp
 ·exact Ziq _ _
theorem Zar {l:List Edit} {k:Int} {x:List ByteArray} (h:∀ e ∈ l,1≤e.kind∧e.kind≤3) (h1:1≤k) (h2:k≤3):∀ e ∈ Zdw l k x,1≤e.kind∧e.kind≤3:=by
 unfold Zdw
 split
 ·exact h
 ·intro e he
  rcases List.mem_append.1 he with he | he
  ·exact h e he
  ·simp at he
   rw [he]
   exact ⟨h1,h2⟩
theorem ZjK (s:Script) (h:s.edits.length≤999990):ZW s=some ⟨Zdw (Zdw s.edits 2 s.deleted) 3 s.insert,[],[],s.kept⟩:=by
 refine ZV ?_
 unfold ZW
 refine Za (ZwU s 2 s.deleted (by omega)) ?_
 refine Za (ZwV _ 3 _ (by dsimp only;have:=ZaR s.edits 2 s.deleted;unfold Zdw at this;omega)) (Zb rfl)
theorem Zmd (s:Script) (h:s.edits.length≤999990):ZX s=some ⟨Zdw s.edits 1 s.kept,s.deleted,s.insert,[]⟩:=by
 refine ZV ?_
 unfold ZX
 exact Za (ZwW s 1 s.kept (by omega)) (Zb rfl)
theorem ZuP (s:ByteArray) (h:s.size≤1000000):(lns s).length≤1000001:=by
 unfold lns
 rw [List.length_map]
 have h1:=Zgh (s.data.toList.count 10) s.data.toList
 have h2:s.data.toList.count 10≤s.data.toList.length:=List.count_le_length
 have h3:s.data.toList.length=s.size:=(Lib.size_eq _).symm
 omega
theorem Ztu (a b:ByteArray) (ha:a.size≤100000) (hb:b.size≤100000):Tot (Zdy a b) fun l=>(∀ e ∈ l,1≤e.kind∧e.kind≤3)∧Za7 l=lns a∧Zbd l=lns b∧l.length≤1000000:=by
 unfold Zdy
 refine Za (Zl2 a (by omega)) ?_
 refine Za (Zl2 b (by omega)) ?_
 refine Zc (fun e=>?_) fun _=>?_
 ·subst e
  refine Za (ZwT _ 1 (lns a) (by simp)) (Zb ?_)
  change (∀ e ∈ Zdw [] 1 (lns a),_)∧Za7 (Zdw [] 1 (lns a))=_∧Zbd (Zdw [] 1 (lns a))=_∧(Zdw [] 1 (lns a)).length≤_
  refine ⟨Zar (fun e h=>by cases h) (by decide) (by decide),?_,?_,?_⟩
  ·rw [ZaG];rfl
  ·rw [ZaH];rfl
  ·have:=ZaR [] 1 (lns a)
   simp at this
   omega
 generalize lns a=x
 generalize lns b=y
 refine Zx (fun k=>Tot (k true) (fun l=>(∀ e ∈ l,1≤e.kind∧e.kind≤3)∧Za7 l=x∧Zbd l=y∧l.length≤1000000)∧(x.length≤1000→y.length≤1000→Tot (k false) fun l=>(∀ e ∈ l,1≤e.kind∧e.kind≤3)∧Za7 l=x∧Zbd l=y∧l.length≤1000000)) ⟨?_,fun hx hy=>?_⟩ fun k hk=>?_
 ·refine ZH rfl ?_
  refine Za (ZwT _ 2 x (by simp)) ?_
  change Tot ((Zab (⟨Zdw [] 2 x,[],[],[]⟩:Script) 3 y).bind _) _
  have h1:=ZaR [] 2 x
  simp at h1
  refine Za (ZwT _ 3 y (by dsimp only;omega)) (Zb ?_)
  change (∀ e ∈ Zdw (Zdw [] 2 x) 3 y,_)∧Za7 (Zdw (Zdw [] 2 x) 3 y)=_∧Zbd (Zdw (Zdw [] 2 x) 3 y)=_∧(Zdw (Zdw [] 2 x) 3 y).length≤_
  refine ⟨Zar (Zar (fun e h=>by cases h) (by decide) (by decide)) (by decide) (by decide),?_,?_,?_⟩
  ·rw [ZaG,ZaG];simp [Za7]
  ·rw [ZaH,ZaH];simp [Zbd]
  ·have:=ZaR (Zdw [] 2 x) 3 y
   omega
 ·refine Zs rfl ?_
  refine Zf (Zoc x y hx hy) fun T hT=>?_
  obtain ⟨hT1,hT2⟩:=hT
  refine Zj (fun a:Int×Int×List Edit×List ByteArray×List ByteArray×List ByteArray=>∃ i j:Nat,a.1=i∧a.2.1=j∧i≤x.length∧j≤y.length∧ScrR x y i j ⟨a.2.2.1,a.2.2.2.1,a.2.2.2.2.1,a.2.2.2.2.2⟩) (fun a=>((x.length:Int) - a.1).toNat+((y.length:Int) - a.2.1).toNat) ⟨0,0,rfl,rfl,Nat.zero_le _,Nat.zero_le _,⟨fun e h=>(by cases h),rfl,rfl,.inl rfl,by simp⟩⟩ (by dsimp only;omega) ?_
  rintro ⟨ii,jj,ed,dl,is,kp⟩ rec ⟨i,j,e1,e2,hi,hj,hS⟩ ih
  dsimp only at e1 e2 hS
  subst e1 e2
  have s1:=hS.kinds
  have s2:=hS.used
  have s3:=hS.came
  have s4:=hS.one
  have s5:=hS.len
  dsimp only at s1 s2 s3 s4 s5
  have dlen:dl.length≤i:=by
   have:=congrArg List.length s2
   simp at this
   omega
  have ilen:is.length≤j:=by
   have:=congrArg List.length s3
   simp at this
   omega
  have klen:kp.length≤i:=by
   have:=congrArg List.length s2
   simp at this
   omega
  have w1:∀ n:Nat,n≤1000→w64 ((n:Int)+1)=(n:Int)+1:=fun n hn=>Zg (by omega) (by omega)
  refine Zx (fun k=>(i<x.length∨j<y.length→Tot (k true) fun l=>(∀ e ∈ l,1≤e.kind∧e.kind≤3)∧Za7 l=x∧Zbd l=y∧l.length≤1000000)∧(i=x.length→j=y.length→Tot (k false) fun l=>(∀ e ∈ l,1≤e.kind∧e.kind≤3)∧Za7 l=x∧Zbd l=y∧l.length≤1000000)) ⟨fun hor=>?_,fun hxe hye=>?_⟩ fun k hk=>?_
  ·refine ZH rfl ?_
   refine Zx (fun k=>(∀ (h1:i<x.length) (h2:j<y.length),x[i]=y[j]→Tot (k true) fun l=>(∀ e ∈ l,1≤e.kind∧e.kind≤3)∧Za7 l=x∧Zbd l=y∧l.length≤1000000)∧(Tot (k false) fun l=>(∀ e ∈ l,1≤e.kind∧e.kind≤3)∧Za7 l=x∧Zbd l=y∧l.length≤1000000)) ⟨fun h1 h2 hxy=>?_,?_⟩ fun k hk=>?_
   ·refine ZH rfl ?_
    refine Za (ZjK _ (by dsimp only;omega)) ?_
    have hx1:x[i]? = some x[i]:=List.getElem?_eq_getElem h1
    have hy1:y[j]? = some y[j]:=List.getElem?_eq_getElem h2
    refine Za (v:=x[i]) (by rw [ZbX hx1]) ?_
    refine ZK 2000 (by simp;omega) (by decide) (by decide) ?_
    rw [w1 i (by omega),w1 j (by omega)]
    refine ih _ ⟨i+1,j+1,by dsimp only;omega,by dsimp only;omega,h1,h2,⟨Zar (Zar s1 (by decide) (by decide)) (by decide) (by decide),?_,?_,?_,?_⟩⟩ (by dsimp only;omega)
    ·dsimp only
     rw [ZaG,ZaG,List.take_add_one,hx1,← s2]
     simp
    ·dsimp only
     rw [ZaH,ZaH,List.take_add_one,hy1,← s3,hxy]
     simp
    ·exact .inr ⟨rfl,rfl⟩
    ·dsimp only
     have a1:=ZaR (Zdw ed 2 dl) 3 is
     have a2:=ZaR ed 2 dl
     omega
   ·refine Zs rfl ?_
    refine Zx (fun k=>(i<x.length→Tot (k true) fun l=>(∀ e ∈ l,1≤e.kind∧e.kind≤3)∧Za7 l=x∧Zbd l=y∧l.length≤1000000)∧(j<y.length→Tot (k false) fun l=>(∀ e ∈ l,1≤e.kind∧e.kind≤3)∧Za7 l=x∧Zbd l=y∧l.length≤1000000)) ⟨fun h1=>?_,fun h2=>?_⟩ fun k hk=>?_
    ·refine ZH rfl ?_
     refine Za (Zmd _ (by dsimp only;omega)) ?_
     have hx1:x[i]? = some x[i]:=List.getElem?_eq_getElem h1
     refine Za (v:=x[i]) (by rw [ZbX hx1]) ?_
     refine ZK 2000 (by simp;omega) (by decide) (by decide) ?_
     rw [w1 i (by omega)]
     refine ih _ ⟨i+1,j,by dsimp only;omega,rfl,h1,hj,⟨Zar s1 (by decide) (by decide),?_,?_,.inl rfl,?_⟩⟩ (by dsimp only;omega)
     ·dsimp only
      rw [ZaG,List.take_add_one,hx1,← s2]
      rcases s4 with h | ⟨h,h'⟩
      ·rw [h];simp
      ·rw [h];simp
     ·dsimp only
      rw [ZaH,← s3]
      rcases s4 with h | ⟨h,h'⟩
      ·rw [h];simp
      ·rw [h'];simp
     ·dsimp only
      have a2:=ZaR ed 1 kp
      omega
    ·refine Zs rfl ?_
     refine Za (Zmd _ (by dsimp only;omega)) ?_
     have hy1:y[j]? = some y[j]:=List.getElem?_eq_getElem h2
     refine Za (v:=y[j]) (by rw [ZbX hy1]) ?_
     refine ZK 2000 (by simp;omega) (by decide) (by decide) ?_
     rw [w1 j (by omega)]
     refine ih _ ⟨i,j+1,rfl,by dsimp only;omega,hi,h2,⟨Zar s1 (by decide) (by decide),?_,?_,.inl rfl,?_⟩⟩ (by dsimp only;omega)
     ·dsimp only
      rw [ZaG,← s2]
      rcases s4 with h | ⟨h,h'⟩
      ·rw [h];simp
      ·rw [h];simp
     ·dsimp only
      rw [ZaH,List.take_add_one,hy1,← s3]
      rcases s4 with h | ⟨h,h'⟩
      ·rw [h];simp
      ·rw [h'];simp
     ·dsimp only
      have a2:=ZaR ed 1 kp
      omega
    ·refine Zc (fun hje=>hk.1 (by omega)) fun hje=>?_
     refine Zc (fun hlt=>?_) fun hlt=>hk.2 (by omega)
     rw [w1 i (by omega)]
     refine Zl (by omega) (by omega) fun r1 hr1 _=>?_
     refine Zl (by omega) (by rw [hT2 r1 hr1];omega) fun v1 _ _=>?_
     refine Zl (by omega) (by omega) fun r2 hr2 _=>?_
     rw [w1 j (by omega)]
     refine Zl (by omega) (by rw [hT2 r2 hr2];omega) fun v2 _ _=>?_
     cases hd:decide (v2≤v1)
     ·exact hk.2 (by omega)
     ·exact hk.1 (by omega)
   ·refine Zc (fun h1=>?_) fun _=>hk.2
    refine Zc (fun h2=>?_) fun _=>hk.2
    refine Zl (by omega) h1 fun u _ hu=>?_
    refine Zl (by omega) h2 fun v _ hv=>?_
    rw [Int.toNat_natCast,List.getElem?_eq_getElem (by omega)] at hu hv
    injection hu with hu
    injection hv with hv
    by_cases huv:u=v
    ·rw [decide_eq_true huv]
     exact hk.1 (by omega) (by omega) (by rw [hu,hv,huv])
    ·rw [decide_eq_false huv]
     exact hk.2
  ·refine Zs rfl ?_
   refine Za (Zmd _ (by dsimp only;omega)) ?_
   have a1:=ZaR ed 1 kp
   refine Za (ZjK _ (by dsimp only;omega)) (Zb ?_)
   dsimp only
   refine ⟨Zar (Zar (Zar s1 (by decide) (by decide)) (by decide) (by decide)) (by decide) (by decide),?_,?_,?_⟩
   ·rw [ZaG,ZaG,ZaG]
    rw [hxe,List.take_length] at s2
    rw [← s2]
    rcases s4 with h | ⟨h,h'⟩
    ·rw [h];simp
    ·rw [h];simp
   ·rw [ZaH,ZaH,ZaH]
    rw [hye,List.take_length] at s3
    rw [← s3]
    rcases s4 with h | ⟨h,h'⟩
    ·rw [h];simp
    ·rw [h'];simp
   ·have a2:=ZaR (Zdw ed 1 kp) 2 dl
    have a3:=ZaR (Zdw (Zdw ed 1 kp) 2 dl) 3 is
    omega
  ·refine Zc (fun h=>hk.1 (.inl (by omega))) fun h=>?_
   by_cases h2:(j:Int)<(y.length:Int)
   ·rw [decide_eq_true h2]
    exact hk.1 (.inr (by omega))
   ·rw [decide_eq_false h2]
    exact hk.2 (by omega) (by omega)
 ·refine Zc (fun _=>hk.1) fun h1=>?_
  by_cases h2:1000<(y.length:Int)
  ·rw [decide_eq_true h2]
   exact hk.1
  ·rw [decide_eq_false h2]
   exact hk.2 (by omega) (by omega)
def jn (L:List ByteArray):List UInt8:=L.flatMap fun x=>x.data.toList
theorem ZpH (A B:List ByteArray):jn (A++B)=jn A++jn B:=by
 unfold jn
 rw [List.flatMap_append]
theorem ZyJ (l:List UInt8) (x:ByteArray):ba l++x=ba (l++x.data.toList):=by
 apply ByteArray.ext
 rw [ByteArray.data_append]
 apply Array.ext'
 simp [ba]
theorem Zwr (s:ByteArray):ba (jn (lns s))=s:=by
 unfold jn lns
 have:((Zbu (s.data.toList.count 10) s.data.toList).map ba).flatMap (fun x=>x.data.toList)=(Zbu (s.data.toList.count 10) s.data.toList).flatten:=by
  rw [List.flatMap_map]
  exact List.flatMap_id'
 rw [this,ZgO]
 rfl
theorem ZsG (a b:ByteArray) (D:List Edit) (ha:a.size≤100000) (hb:b.size≤100000) (hk:∀ e ∈ D,1≤e.kind∧e.kind≤3) (hu:Za7 D=lns a) (hc:Zbd D=lns b) (hl:D.length≤1000000):Tot (ZhH a D) fun r=>r=(b,0):=by
 unfold ZhH
 refine Za (ZsL a (by omega)) ?_
 have hxl:=ZuP a (by omega)
 have hyl:=ZuP b (by omega)
 have hjb:(jn (lns b)).length=b.size:=by
  conv=>rhs;rw [← Zwr b]
  rfl
 generalize lns a=X at *
 have pre:∀ k:Nat,Za7 D=Za7 (D.take k)++Za7 (D.drop k)∧Zbd D=Zbd (D.take k)++Zbd (D.drop k):=fun k=>by
  unfold Za7 Zbd
  rw [← List.flatMap_append,← List.flatMap_append,List.take_append_drop]
  exact ⟨rfl,rfl⟩
 refine Zj (fun s:ByteArray×Int×Int=>∃ k:Nat,s.2.2=k∧k≤D.length∧s.2.1=((Za7 (D.take k)).length:Int)∧s.1=ba (jn (Zbd (D.take k)))) (fun s=>((D.length:Int) - s.2.2).toNat) ⟨0,rfl,Nat.zero_le _,rfl,rfl⟩ (by dsimp only;omega) ?_
 rintro ⟨out,n,kk⟩ rec ⟨k,e1,hkl,e2,e3⟩ ih
 dsimp only at e1 e2 e3 ⊢
 subst e1
 have hU:=(pre k).1
 have hC:=(pre k).2
 refine Zc (fun hlt=>?_) fun hlt=>?_
 ·have hlt':k<D.length:=by omega
  have hdk:D.drop k=D[k]::D.drop (k+1):=List.drop_eq_getElem_cons hlt'
  have htk:D.take (k+1)=D.take k ++ [D[k]]:=List.take_succ_eq_append_getElem hlt'
  refine Zl (by omega) hlt fun e he hg=>?_
  rw [Int.toNat_natCast,List.getElem?_eq_getElem hlt'] at hg
  injection hg with hg
  subst hg
  have hke:=hk _ he
  have hU2:X=Za7 (D.take k)++((if D[k].kind=3 then [] else D[k].lines)++Za7 (D.drop (k+1))):=by
   rw [← hu,hU,hdk]
   rfl
  have hC2:lns b=Zbd (D.take k)++((if D[k].kind=2 then [] else D[k].lines)++Zbd (D.drop (k+1))):=by
   rw [← hc,hC,hdk]
   rfl
  have hJ:(jn (Zbd (D.take k))).length+(jn (if D[k].kind=2 then [] else D[k].lines)).length≤b.size:=by
   rw [← hjb,hC2,ZpH,ZpH,List.length_append,List.length_append]
   omega
  have hlen3:D[k].kind≠3→(Za7 (D.take k)).length+D[k].lines.length≤X.length:=fun h=>by
   rw [hU2,if_neg h,List.length_append,List.length_append]
   omega
  have hlen2:D[k].lines.length≤1000001:=by
   by_cases h:D[k].kind=3
   ·have:D[k].kind≠2:=by omega
    have:=congrArg List.length hC2
    rw [if_neg ‹D[k].kind≠2›,List.length_append,List.length_append] at this
    omega
   ·have:=hlen3 h
    omega
  generalize hE:D[k]=E at *
  refine Zx (fun q=>Tot (q false) fun r=>r=(b,0)) ?_ fun q hq=>?_
  ·refine Zs rfl ?_
   refine Zj (fun s:ByteArray×Int×Int=>∃ t:Nat,s.2.2=t∧t≤E.lines.length∧s.2.1=((Za7 (D.take k)).length:Int)+(if E.kind=3 then 0 else (t:Int))∧s.1=ba (jn (Zbd (D.take k)++if E.kind=2 then [] else E.lines.take t))) (fun s=>((E.lines.length:Int) - s.2.2).toNat) ⟨0,rfl,Nat.zero_le _,by dsimp only;rw [e2];split<;>simp,by dsimp only;rw [e3];split<;>simp⟩ (by dsimp only;omega) ?_
   rintro ⟨out2,n2,tt⟩ rec2 ⟨t,g1,g2,g3,g4⟩ ih2
   dsimp only at g1 g3 g4 ⊢
   subst g1
   refine Zc (fun hlt2=>?_) fun hlt2=>?_
   ·have hlt2':t<E.lines.length:=by omega
    have et:E.lines[t]? = some E.lines[t]:=List.getElem?_eq_getElem hlt2'
    have hw:w64 ((t:Int)+1)=(t:Int)+1:=Zg (by omega) (by omega)
    rw [hw]
    refine Zx (fun q=>∀ (o:ByteArray) (m:Int),m=((Za7 (D.take k)).length:Int)+(if E.kind=3 then 0 else ((t:Int)+1))→o=ba (jn (Zbd (D.take k)++if E.kind=2 then [] else E.lines.take (t+1)))→Tot (q o m) fun r=>r=(b,0)) (fun o m hm ho=>ih2 _ ⟨t+1,by dsimp only;omega,hlt2',by dsimp only;rw [hm];simp,ho⟩ (by dsimp only;omega)) fun q hq=>?_
    refine Zx (fun q2=>∀ m:Int,m=((Za7 (D.take k)).length:Int)+(if E.kind=3 then 0 else ((t:Int)+1))→Tot (q2 m) fun r=>r=(b,0)) (fun m hm=>?_) fun q2 hq2=>?_
    ·refine ZQ (fun h2=>?_) fun h2=>?_
     ·refine Za (v:=E.lines[t]) (by rw [ZbX et]) ?_
      rw [g4,if_neg h2]
      have hsz:(jn (Zbd (D.take k)++E.lines.take t)).length+(E.lines[t]).data.toList.length≤b.size:=by
       have h1:jn E.lines=jn (E.lines.take t)++(E.lines[t].data.toList++jn (E.lines.drop (t+1))):=by
        conv=>lhs;rw [← List.take_append_drop t E.lines,List.drop_eq_getElem_cons hlt2',ZpH]
        rfl
       rw [if_neg h2,h1,List.length_append,List.length_append] at hJ
       rw [ZpH,List.length_append]
       omega
      refine Zf2 (by
       have:(E.lines[t]).size=(E.lines[t]).data.toList.length:=Lib.size_eq _
       rw [Zn2,this]
       omega) fun _=>?_
      refine hq _ _ hm ?_
      have e1:E.lines.take (t+1)=E.lines.take t ++ [E.lines[t]]:=List.take_succ_eq_append_getElem hlt2'
      rw [ZyJ,if_neg h2,e1,← List.append_assoc,ZpH (_++_) [E.lines[t]]]
      congr 2
      simp [jn]
     ·refine hq _ _ hm ?_
      rw [g4,if_pos h2,if_pos h2]
    ·refine ZQ (fun h3=>?_) fun h3=>?_
     ·have hl3:=hlen3 h3
      rw [if_neg h3] at g3 hU2
      refine Zx (fun q=>Tot (q false) fun r=>r=(b,0)) (Zs rfl (hq2 _ (by rw [if_neg h3,g3,Zg (by omega) (by omega)];omega))) fun q3 hq3=>?_
      refine Zc (fun c=>absurd c (by omega)) fun _=>?_
      have hat:X[(Za7 (D.take k)).length+t]? = some E.lines[t]:=by
       rw [hU2,List.getElem?_append_right (by omega),Nat.add_sub_cancel_left,List.getElem?_append_left hlt2',et]
      refine Za (v:=E.lines[t]) (by
       have:=ZbX hat
       rw [g3]
       rw [← this]
       congr 1) ?_
      refine Za (v:=E.lines[t]) (by rw [ZbX et]) ?_
      rw [decide_eq_true rfl]
      exact hq3
     ·exact hq2 _ (by rw [if_pos h3] at g3 ⊢;exact g3)
   ·have ht:t=E.lines.length:=by omega
    subst ht
    rw [List.take_length] at g4
    rw [Zg (n:=(k:Int)+1) (by omega) (by omega)]
    refine ih _ ⟨k+1,by dsimp only;omega,hlt',?_,?_⟩ (by dsimp only;omega)
    ·dsimp only
     rw [htk,Zip,List.length_append,g3]
     split<;>simp
    ·dsimp only
     rw [htk,Ziq,g4]
  ·refine Zc (fun c=>absurd c (by omega)) fun _=>?_
   rw [decide_eq_false (by omega)]
   exact hq
 ·have hkD:k=D.length:=by omega
  subst hkD
  rw [List.take_length] at e2 e3
  refine Zc (fun c=>absurd c (by rw [e2,hu];omega)) fun _=>Zb ?_
  rw [e3,hc,Zwr]
theorem ZjH {s:State} (hs:s.pages.Pairwise fun a b=>tlt a.title b.title) (t:Title) (hl:s.pages.length≤1000000):Zce s t=some (Zft s.pages t):=by
 refine ZV ((Zq8 s t hl).mono fun r hr=>?_)
 unfold Zft
 rcases hr with ⟨rfl,h⟩ | ⟨h1,h2,h3⟩
 ·rw [List.find?_eq_none.2 (fun p hp=>by simpa using h p hp)]
 ·cases hf:s.pages.find? (fun p=>decide (p.title=t)) with
  | none=>
    have:=List.find?_eq_none.1 hf _ h2
    simp [h3] at this
  | some p=>
    have e1:=List.mem_of_find?_eq_some hf
    have e2:=of_decide_eq_true (p:=p.title=t) (List.find?_some (p:=fun p:Stored=>decide (p.title=t)) hf)
    have:=Zps hs e1 h2 (e2.trans h3.symm)
    rw [this]
    exact Prod.ext rfl h1
theorem ZjT {s:State} (hs:s.pages.Pairwise fun a b=>tlt a.title b.title) (t:Title) (hl:s.pages.length≤1000000) (hh:(ZC s.pages t).length≤1000000) (n:Int):ZaU s t n=some (Zmj (ZC s.pages t) n):=by
 refine ZV ?_
 unfold ZaU
 refine Za (ZjH hs t hl) ?_
 rw [Zgr]
 generalize ZC s.pages t=h at hh
 refine Zj (fun i:Int=>(0≤i∧i≤(h.length:Int))∧∀ (j:Nat) p,(j:Int)<i→h[j]? = some p→p.number≠n) (fun i=>((h.length:Int) - i).toNat) ⟨⟨by omega,by omega⟩,fun j p h=>by omega⟩ (by first | omega | (dsimp only;omega)) ?_
 rintro i rec ⟨⟨h0,h1⟩,h2⟩ ih
 refine Zc (fun hlt=>?_) fun hlt=>?_
 ·refine Zl h0 hlt fun e he hg=>?_
  refine Zc (fun ht=>?_) fun ht=>?_
  ·refine Zl h0 hlt fun e' _ hg'=>Zb ?_
   rw [hg] at hg'
   injection hg' with hg'
   subst hg'
   unfold Zmj
   rw [ZlE (fun j p hj hp=>h2 j p (by omega) hp) hg ht]
  ·rw [Zg (by omega) (by omega)]
   refine ih _ ⟨⟨by omega,by omega⟩,fun j p hj hp=>?_⟩ (by omega)
   by_cases hji:(j:Int)<i
   ·exact h2 j p hji hp
   ·rw [show i.toNat=j by omega,hp] at hg
    injection hg with hg
    rw [hg]
    exact ht
 ·refine Zb ?_
  unfold Zmj
  rw [List.find?_eq_none.2]
  intro p hp
  obtain ⟨j,hj,rfl⟩:=List.getElem_of_mem hp
  simpa using h2 j _ (by omega) (List.getElem?_eq_getElem hj)
structure HistN (h:List Revision):Prop where
 len:h.length≤40
 num:∀ (i:Nat) r,h[i]? = some r→r.number=(i:Int)+1
 text:∀ r ∈ h,r.text.size≤8192
theorem Zw0 {t0:ByteArray} {q:Int} {s:State} (hv:VS t0 q s) (t:Title):HistN (ZC s.pages t):=by
 unfold ZC
 cases hf:s.pages.find? (fun p=>decide (p.title=t)) with
 | none=>exact ⟨Nat.zero_le _,fun i r h=>(by simp at h),fun r h=>(by cases h)⟩
 | some p=>
   have hp:=(hv.pages p (List.mem_of_find?_eq_some hf)).hist
   exact ⟨hp.len2,hp.num,fun r hr=>(hp.all r hr).text⟩
theorem ZhN {h:List Revision} (hN:HistN h) (n:Int):(Zjb h n).1=(Zmj h n).1.text∧(Zjb h n).1.size≤8192:=by
 have hr:(Zmj h n).1.text.size≤8192:=by
  unfold Zmj
  cases hf:h.find? (fun r=>decide (r.number=n)) with
  | none=>decide
  | some r=>exact hN.text r (List.mem_of_find?_eq_some hf)
 unfold Zjb
 split
 ·rename_i h0
  refine ⟨?_,by decide⟩
  unfold Zmj
  rw [List.find?_eq_none.2]
  intro r hm
  obtain ⟨j,hj⟩:=List.getElem?_of_mem hm
  have:=hN.num j r hj
  simp
  omega
 ·exact ⟨rfl,hr⟩
theorem ZtL {h:List Revision} (hN:HistN h) (n:Int) (h0:0≤n) (h1:n≤(h.length:Int)):(Zjb h n).2=true:=by
 unfold Zjb
 split
 ·rfl
 ·rename_i hne
  have hlt:n.toNat - 1<h.length:=by omega
  have hg:h[n.toNat - 1]? = some h[n.toNat - 1]:=List.getElem?_eq_getElem hlt
  have hn:=hN.num _ _ hg
  unfold Zmj
  cases hf:h.find? (fun r=>decide (r.number=n)) with
  | none=>
    have:=List.find?_eq_none.1 hf _ (List.mem_of_getElem? hg)
    simp at this
    omega
  | some r=>rfl
theorem ZtM (l:List Int) (who at_ a b:Int) (hl:l.length≤9223372036854775807):Zfb l who at_ a b=some true:=by
 refine ZV ?_
 unfold Zfb
 refine Zf (Zo5 madeW l hl) fun s hs=>?_
 refine Za (v:=usersG) rfl ?_
 refine Zf (Zfw who 4 (by omega) (by omega)) fun w hw=>?_
 refine Zhz hw.1 hw.2 fun u hu=>?_
 refine Za (v:=ZaJ) rfl ?_
 refine Zf (Zfw at_ 8 (by omega) (by omega)) fun w2 hw2=>?_
 refine Zl hw2.1 hw2.2 fun t ht _=>?_
 obtain ⟨t0,ht0,hv⟩:=hs.1.1.ex
 obtain ⟨P0,hP,G,hR,-⟩:=Zr7 (u:=u) hv ht0 hu
 have hpl:=hs.1.plen
 have hN:=Zw0 hv t
 have hNl:=hN.len
 refine Za (ZjH hv.sorted t (by omega)) ?_
 rw [Zgr,Zg (n:=((ZC s.pages t).length:Int)+1) (by omega) (by omega)]
 refine Zf (Zfw a _ (by omega) (by omega)) fun x hx=>?_
 refine Zf (Zfw b _ (by omega) (by omega)) fun y hy=>?_
 have hD:=Ziv hs.1 hR.rd hu t ht x y
 have hrd:=Zdv hR (by omega) t
 have hrdB:rdB s.pages (Zb4 P0 s.pages) G t=(s.pages.any (fun p=>decide (p.title=t))&&ZiO (Zb4 P0 s.pages) G 1 t):=rfl
 have hok:(Zft s.pages t).2=s.pages.any (fun p=>decide (p.title=t)):=Zis _ _
 generalize s.pages.any (fun p=>decide (p.title=t))=ex at *
 generalize ZiO (Zb4 P0 s.pages) G 1 t=may at *
 cases may with
 | false=>
   refine Za (v:=([],10)) (by rw [hD];rfl) ?_
   refine Za hrd ?_
   refine ZH (by rw [hrdB];cases ex<;>rfl) ?_
   refine ZJ ?_
   refine Za Zgm ?_
   refine ZH rfl ?_
   exact ZH rfl (ZH rfl (Zb rfl))
 | true=>
   cases ex with
   | false=>
     refine Za (v:=([],4)) (by rw [hD];rfl) ?_
     refine Za hrd ?_
     refine ZH (by rw [hrdB];rfl) ?_
     refine ZJ ?_
     refine Za Zgm ?_
     refine ZH rfl ?_
     refine ZH rfl (Zs rfl (ZH rfl (Zb ?_)))
     rw [hok]
     rfl
   | true=>
     obtain ⟨a1,a2⟩:=ZhN hN x
     obtain ⟨b1,b2⟩:=ZhN hN y
     obtain ⟨D,hD1,k1,k2,k3,k4⟩:=Ztu (Zjb (ZC s.pages t) x).1 (Zjb (ZC s.pages t) y).1 (by omega) (by omega)
     refine Za (v:=(D,0)) ?_ ?_
     ·rw [hD]
      unfold ZqP
      rw [if_neg (by simp),ZtL hN x hx.1 (by omega),ZtL hN y hy.1 (by omega),if_pos (show (true&&true&&true)=true from rfl),hD1]
      rfl
     refine Za hrd ?_
     refine Zs (by rw [hrdB];rfl) ?_
     refine Za (ZjT hv.sorted t (by omega) (by omega) x) ?_
     refine Za (ZjT hv.sorted t (by omega) (by omega) y) ?_
     rw [← a1]
     refine Zf (ZsG _ _ D (by omega) (by omega) k1 k2 k3 k4) fun r hr=>?_
     subst hr
     refine ZJ ?_
     refine Za Zgm ?_
     refine ZH rfl (ZH rfl (ZH rfl (Zb ?_)))
     rw [← b1]
     exact decide_eq_true rfl
end Go.Proofs.YtjoneoobolnnbaaGreatDoor
namespace Go.Proofs.YtjoneoobolnnbaaGreatDoor
open VL Go.RowKit
theorem Zfm {α:Type} [Enc α] {w:World} {A:Option Addr} {n c:Nat} {xs:List α} (h:SlR w A n c xs):xs.length≤9223372036854775807:=by
 obtain ⟨h1,h2,h3,h4⟩:=h
 omega
theorem Zqp {x:Ctx} (i:Nat) (p:PV) (v:Value) (hp:([]:List PV)[i]? = some p) (hv:([]:List Value)[i]? = some v):Rep x p v:=by simp at hp
theorem Zf4 {x:Ctx} {p:PV} {v:Value} {ps:List PV} {vs:List Value} (h:Rep x p v) (r:∀ (i:Nat) (p:PV) (v:Value),ps[i]? = some p→vs[i]? = some v→Rep x p v) (i:Nat) (q:PV) (w:Value) (hp:(p::ps)[i]? = some q) (hv:(v::vs)[i]? = some w):Rep x q w:=by
 cases i with
 | zero=>injection hp with hp;injection hv with hv;subst hp hv;exact h
 | succ i=>exact r i q w (by simpa using hp) (by simpa using hv)
theorem Zqq {x:Ctx} {ps:List PV} {vs:List Value} (r:∀ (i:Nat) (p:PV) (v:Value),ps[i]? = some p→vs[i]? = some v→Rep x p v) (i:Nat) (p:PV) (v:Value) (hp:ps[i]? = some p) (hv:vs.toArray[i]? = some v):Rep x p v:=r i p v hp (by simpa using hv)
theorem ZoG {A0:Option Addr} {n0 c0:Nat} {l0:List Int} (i1:Int) (i2:Int) (i3:Int) (i4:Int) (W:World) (h0:SlR W A0 n0 c0 l0) (hI:∀ W',Below W.heap.size W W'→WInv.I Tryz.prog W') :
  Calls Tryz.prog 8 #[.slice A0 n0 c0,.int .i64 i1,.int .i64 i2,.int .i64 i3,.int .i64 i4] W fun e w'=>e = .returned (.bool true)∧Below W.heap.size W w':=
 Zgv (Zm2 l0 i1 i2 i3 i4 true (ZtM l0 i1 i2 i3 i4 (Zfm h0))) rfl (fun i p v hp hv=>Zqq (vs:=[.slice A0 n0 c0,.int .i64 i1,.int .i64 i2,.int .i64 i3,.int .i64 i4]) (Zf4 (ZeG h0) (Zf4 (.int _ _) (Zf4 (.int _ _) (Zf4 (.int _ _) (Zf4 (.int _ _) Zqp))))) i p v hp hv) hI
end Go.Proofs.YtjoneoobolnnbaaGreatDoor
