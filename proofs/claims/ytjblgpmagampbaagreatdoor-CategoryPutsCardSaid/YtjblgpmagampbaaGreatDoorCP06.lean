/- The reference's Valid. | Functions of the library and of titles, as the others are written. | strings.ReplaceAll at one byte for one byte. | A call that turns the row that is its first argument and only looks at the others, function values among them. No program is named. | Queues: a row of the call's own whose front is cut off and whose end grows. No program is named. | The rules for queues. No program is named. | Functions of the program as Lean functions. Written by fxgen.py. | Three strings. No program is named. -/
import Derived.Test.YtjblgpmagampbaaGreatDoorCP05
import Derived.Test.YtjblgpmagampbaaGreatDoorCP02
import Derived.Test.YtjblgpmagampbaaGreatDoorCP03
import Derived.Test.YtjblgpmagampbaaGreatDoorCP04
namespace Go.Proofs.YtjblgpmagampbaaGreatDoor
open Go.RowKit
end Go.Proofs.YtjblgpmagampbaaGreatDoor
set_option linter.unusedVariables false
namespace Go.Proofs.YtjblgpmagampbaaGreatDoor
open VL Go.RowKit
def Zjc (t:Title):Option Bool:=some t.valid
theorem ZkK (t:Title) (r:Bool) (h:Zjc t=some r):Zd Tryz.prog 323 [t.pv] (.bool r):=by
 cases h
 exact Zan (vals:=[.agg #[.int .i64 t.space,.string t.name]]) (by kernel_rfl) rfl rfl (fun x=>.bool _) fun w hw=>Zob t w hw.1
def ZfP (a b:Title):Option Int:=some (Title.cmp a b)
theorem ZhP (a b:Title) (r:Int) (h:ZfP a b=some r):Zd Tryz.prog 40 [a.pv,b.pv] (.int .i64 r):=by
 cases h
 exact Zan (vals:=[.agg #[.int .i64 a.space,.string a.name],.agg #[.int .i64 b.space,.string b.name]]) (by kernel_rfl) rfl rfl (fun x=>.int _ _) fun w _=>Zf5 a b w
def strings_Index (s c:ByteArray):Option Int:=if s.size<4294967281 then some (Lib.index s.data.toList c.data.toList) else none
theorem ZdV (s c:ByteArray) (r:Int) (h:strings_Index s c=some r):Zd Tryz.prog 253 [.str s,.str c] (.int .i64 r):=by
 unfold strings_Index at h
 split at h
 ·rename_i hc
  cases h
  exact Zan (vals:=[.string s,.string c]) (by kernel_rfl) rfl rfl (fun x=>.int _ _) fun w hw=>by
   obtain ⟨m,hm⟩:=hw.1
   exact (Tryz.strings_Index s c m w hc hm).mono fun e w' ⟨e1,e2⟩=>⟨e1,e2 ▸ Below.refl _ _⟩
 ·cases h
def strings_Contains (s c:ByteArray):Option Bool:=if s.size<4294967281 then some (Lib.contains s.data.toList c.data.toList) else none
theorem ZbA (s c:ByteArray) (r:Bool) (h:strings_Contains s c=some r):Zd Tryz.prog 177 [.str s,.str c] (.bool r):=by
 unfold strings_Contains at h
 split at h
 ·rename_i hc
  cases h
  exact Zan (vals:=[.string s,.string c]) (by kernel_rfl) rfl rfl (fun x=>.bool _) fun w hw=>by
   obtain ⟨m,hm⟩:=hw.1
   exact (Tryz.strings_Contains s c m w hc hm).mono fun e w' ⟨e1,e2⟩=>⟨e1,e2 ▸ Below.refl _ _⟩
 ·cases h
def strings_Cut (s c:ByteArray):Option (ByteArray×ByteArray×Bool):=if s.size<4294967281 then some (⟨(Lib.cut s.data.toList c.data.toList).1.toArray⟩,⟨(Lib.cut s.data.toList c.data.toList).2.1.toArray⟩,(Lib.cut s.data.toList c.data.toList).2.2) else none
theorem ZtR {x:Ctx} (a b:ByteArray) (c:Bool):Rep x (.tup [.str a,.str b,.bool c]) (.tuple #[.string a,.string b,.bool c]):=.tup _ _ rfl fun i p v hp hv=>by
 match i,hp,hv with
 | 0,hp,hv=>injection hp with hp;injection hv with hv;subst hp hv;exact .str _
 | 1,hp,hv=>injection hp with hp;injection hv with hv;subst hp hv;exact .str _
 | 2,hp,hv=>injection hp with hp;injection hv with hv;subst hp hv;exact .bool _
 | i+3,hp,_=>simp at hp
theorem ZgX (s c:ByteArray) (r:ByteArray×ByteArray×Bool) (h:strings_Cut s c=some r):Zd Tryz.prog 263 [.str s,.str c] (.tup [.str r.1,.str r.2.1,.bool r.2.2]):=by
 unfold strings_Cut at h
 split at h
 ·rename_i hc
  cases h
  exact Zan (vals:=[.string s,.string c]) (by kernel_rfl) rfl rfl (fun x=>ZtR _ _ _) fun w hw=>by
   obtain ⟨m,hm⟩:=hw.1
   refine (Tryz.strings_Cut s c m w hc hm).mono ?_
   rintro e w' ⟨rfl,n,rfl⟩
   exact ⟨rfl,Below.dn (Below.refl _ _) n⟩
 ·cases h
def strings_Split (s c:ByteArray):Option (List ByteArray):=if (s.size<4294967281∧1≤c.size)∧Lib.countB s c≤1000000 then some (Lib.splitB c 0 (Lib.countB s c) s) else none
theorem Zjd (s c:ByteArray) (r:List ByteArray) (h:strings_Split s c=some r):ContractN Tryz.prog 355 [.str s,.str c] (.row 9 1 false (List.map csS r)):=by
 unfold strings_Split at h
 split at h
 ·rename_i hc
  injection h with h
  have hlen:r.length=Lib.countB s c+1:=by rw [← h];exact Lib.splitB_all c hc.1.2 0 _ s rfl
  refine Zkm (α:=ByteArray) (vals:=[.string s,.string c]) (enc:=fun x=>[.string x]) (by kernel_rfl) rfl (fun x=>rfl) (fun S w x cs h=>h) (fun x=>rfl) fun w hw=>?_
  obtain ⟨m,hm⟩:=hw.1
  refine (Tryz.strings_Split s c m w hc.1.1 hm hc.1.2).mono ?_
  rintro e w' ⟨rfl,rfl⟩
  rw [h,← hlen]
  refine ⟨_,rfl,OwnL.of_row ⟨by simp,.inr ⟨w.heap.size,r.length,_,rfl,Nat.le_refl _,heap_alloc_new w _,Nat.le_refl _,?_,by simp,?_⟩⟩,Below.al (Below.refl _ _) _⟩
  ·unfold maxLen;omega
  ·rw [Nat.mul_one,List.take_of_length_le (by simp)]
 ·cases h
def strings_Join (L:List ByteArray) (s:ByteArray):Option ByteArray:=
 if (0<L.length∧L.length≤140737488355328)∧(Lib.join (L.map (·.data.toList)) s.data.toList).length≤140737488355328 then some ⟨(Lib.join (L.map (·.data.toList)) s.data.toList).toArray⟩ else none
theorem Zjy (L:List ByteArray) (s:ByteArray) (r:ByteArray) (h:strings_Join L s=some r):Zd Tryz.prog 357 [.sl (List.map csS L),.str s] (.str r):=by
 unfold strings_Join at h
 split at h
 ·rename_i hc
  cases h
  refine Zek (by kernel_rfl) rfl (fun x=>.str _) fun x vs hp _=>?_
  obtain ⟨v,w,rfl,h1,h2⟩:=args2 hp
  obtain rfl:=Zr8 h2
  obtain ⟨A,n,c,rfl,hS⟩:=Zmv hp.flt h1
  obtain ⟨q1,q2,q3,q4⟩:=hS
  obtain ⟨b,off,css,hA,_,hlt,hx⟩:=q4 (by omega)
  subst hA
  subst q1
  refine Tryz.strings_Join b off c L s x.W (fun j y hy=>?_) hlt hc.1.2 q2 hc.2
  obtain ⟨p1,p2⟩:=hx j y hy
  have e1:css j = [.string y]:=p1
  have:=p2 0 (.string y) (by rw [e1];rfl)
  rw [show off+j=off+j * Enc.k ByteArray+0 by show off+j=off+j * 1+0;omega]
  exact this
 ·cases h
def strings_Repeat (s:ByteArray) (c:Int):Option ByteArray:=if 0≤c∧c≤9223372036854775807∧s.size * c.toNat≤140737488355328 then some ⟨(Lib.repeatL s.data.toList c.toNat).toArray⟩ else none
theorem Zdb (s:ByteArray) (c:Int) (r:ByteArray) (h:strings_Repeat s c=some r):Zd Tryz.prog 251 [.str s,.int .i64 c] (.str r):=by
 unfold strings_Repeat at h
 split at h
 ·rename_i hc
  cases h
  obtain ⟨n,rfl⟩:∃ n:Nat,c=n:=⟨c.toNat,by omega⟩
  exact Zan (vals:=[.string s,.int .i64 n]) (by kernel_rfl) rfl rfl (fun x=>.str _) fun w hw=>Tryz.strings_Repeat s n w (by omega) (by simpa using hc.2.2)
 ·cases h
def Zfp (s:ByteArray):Option (Int×ByteArray×Bool):=if s.size<4294967281 then (match Zeh s.data.toList with | some q=>some (q.1,⟨q.2.toArray⟩,true) | none=>some (0,⟨#[]⟩,false)) else none
theorem ZtS {x:Ctx} (a:Int) (b:ByteArray) (c:Bool):Rep x (.tup [.int .i64 a,.str b,.bool c]) (.tuple #[.int .i64 a,.string b,.bool c]):=.tup _ _ rfl fun i p v hp hv=>by
 match i,hp,hv with
 | 0,hp,hv=>injection hp with hp;injection hv with hv;subst hp hv;exact .int _ _
 | 1,hp,hv=>injection hp with hp;injection hv with hv;subst hp hv;exact .str _
 | 2,hp,hv=>injection hp with hp;injection hv with hv;subst hp hv;exact .bool _
 | i+3,hp,_=>simp at hp
theorem Zjz (s:ByteArray) (r:Int×ByteArray×Bool) (h:Zfp s=some r):Zd Tryz.prog 321 [.str s] (.tup [.int .i64 r.1,.str r.2.1,.bool r.2.2]):=by
 unfold Zfp at h
 split at h
 ·rename_i hc
  have hv:Zg3 s.data.toList = .tuple #[.int .i64 r.1,.string r.2.1,.bool r.2.2]:=by
   unfold Zg3
   cases hp:Zeh s.data.toList with
   | none=>rw [hp] at h;injection h with h;subst h;rfl
   | some q=>rw [hp] at h;injection h with h;subst h;rfl
  exact Zan (vals:=[.string s]) (by kernel_rfl) rfl rfl (fun x=>ZtS _ _ _) fun w hw=>by
   rw [← hv]
   exact Zg4 s w hc hw.1
 ·cases h
def Zb8 (s o n:ByteArray):Option ByteArray:=if (s.size<4294967281∧1≤o.size)∧s.size+Lib.countB s o * n.size≤140737488355328 then some ⟨(Lib.replaceAll s.data.toList o.data.toList n.data.toList).toArray⟩ else none
theorem Zfa (s o n r:ByteArray) (h:Zb8 s o n=some r):Zd Tryz.prog 319 [.str s,.str o,.str n] (.str r):=by
 unfold Zb8 at h
 split at h
 ·rename_i hc
  injection h with h
  subst h
  exact Zan (vals:=[.string s,.string o,.string n]) (by kernel_rfl) rfl rfl (fun x=>.str _) fun w hw=>by
   obtain ⟨m,hm⟩:=hw.1
   exact (Tryz.strings_ReplaceAll s o n m w hc.1.1 hm hc.1.2 hc.2).mono fun e w' h=>h
 ·cases h
end Go.Proofs.YtjblgpmagampbaaGreatDoor
namespace Go.Proofs.YtjblgpmagampbaaGreatDoor
namespace VL
open Go.RowKit
theorem ZfG {f:Nat→Option (Gen×VObj)} {t t':Nat} {q:Gen×VObj} (h:Zba f t none t'=some q):t'≠t∧f t'=some q:=by
 unfold Zba at h
 split at h
 ·cases h
 ·rename_i hne
  exact ⟨hne,h⟩
theorem ZnE {f:Nat→Option (Gen×VObj)} {t u k:Nat} (h:k ∈ ZeR (Zba f t none) u):k ∈ ZeR f u:=by
 unfold ZeR Zba at h
 by_cases e:u=t
 ·simp [e] at h
 ·simp only [e,if_false] at h
  exact h
theorem ZjR {f:Nat→Option (Gen×VObj)} {t:Nat}:∀ (n:Nat) (l l':List Nat),(∀ k ∈ l,k ∈ l')→∀ k ∈ Zc5 (Zba f t none) n l,k ∈ Zc5 f n l'
 | 0,_,_,h,k,hk=>h k hk
 | n+1,l,l',h,k,hk=>by
   rcases List.mem_append.1 hk with hk | hk
   ·exact List.mem_append_left _ (h k hk)
   ·refine List.mem_append_right _ (ZjR n _ _ (fun k hk=>?_) k hk)
    obtain ⟨u,hu,hk⟩:=List.mem_flatMap.1 hk
    exact List.mem_flatMap.2 ⟨u,h u hu,ZnE hk⟩
section
variable {P:Program} [WInv P] {r:Run} {ops:Array Oper} {o:Oper} {i:Nat} {s s':FS}
theorem Zo2 {f:FuncId} {es:Array Operand} {ts:Array TypeId} {post post':List PV} {t:Nat} {g:Gen} {E k:Nat} {els els':List (List PV)} (ho:o.op = .call { callee:=.value (.func f),args:=es,argTypes:=ts })
  (he:es.toList.map (ev s) = .row t g::post) (hob:s.ob t=some (g,.row E k false els)) (hp:Ze2 (frz (Zba s.ob t none)) post=some post') (hdry:∀ e ∈ els',∀ p ∈ e,p.dry1=true) (hc:ContractS P f post' E k els els') (hI:r.I=WInv.I P):OpOK P r o i s ⟨.row t (s.ng,i),[(t,some ((s.ng,i),.row E k false els'))]⟩:=by
 intro S a x Q hX hi hd
 have hrep:∀ (j:Nat) (p:PV),(PV.row t g::post)[j]? = some p→Rep x p ((es.map a.eval).getD j undef):=fun j p hp=>by
  rw [← he,List.getElem?_map] at hp
  cases he:es.toList[j]? with
  | none=>rw [he] at hp;simp at hp
  | some e=>
    rw [he] at hp
    simp only [Option.map_some,Option.some.injEq] at hp
    subst hp
    have hea:es[j]? = some e:=by simpa using he
    have:(es.map a.eval).getD j undef=a.eval e:=by simp [hea]
    rw [this]
    exact ZE hX e
 obtain ⟨hG,hO⟩:=hX.ob t g _ hob
 have hlt:=fun b hb=>hO.lt b hb
 obtain ⟨q1,q2,vs2,q3,q4,q5⟩:=hO
 let s2:FS:=⟨s.tm,Zba s.ob t none,s.ng⟩
 have hX2:RstX r S s2 a x:=⟨hX.defers,hX.size,hX.gr,hX.gens,hX.tm,fun t' g' o' h=>hX.ob t' g' o' (ZfG h).2,fun t1 t2 g1 g2 o1 o2 b hne h1 h2 hb=>hX.apart t1 t2 g1 g2 o1 o2 b hne (ZfG h1).2 (ZfG h2).2 hb,hX.flt,hX.f0,hX.fnew,hX.rho,hX.inv,hX.keep⟩
 let z:Ctx:=⟨fun g'=>g'=(0,0),(frozen s2 x).F,x.W,fun _=>x.ρ g⟩
 have hzF:∀ b o,x.F b o→z.F b o:=fun b o h=>.inl h
 obtain ⟨hp1,hp2⟩:=ZdA hp
 have hpre:PreR z post' E k els (es.map a.eval):=by
  refine ⟨?_,fun j p v hj hv=>?_,⟨rfl,q1,q2,vs2,q3,fun m p v hm hv=>?_,fun b hb=>⟨.inr hb,fun o hF=>?_⟩⟩,fun g' e=>?_,fun b o hb=>?_⟩
  ·have:=congrArg List.length he
   simp at this
   simp [this,hp1]
  ·cases j with
   | zero=>
     simp only [List.getElem?_cons_zero,Option.some.injEq] at hj
     subst hj
     have:=hrep 0 (.row t g) rfl
     rw [Array.getD_eq_getD_getElem?,hv] at this
     simp only [Option.getD_some] at this
     cases this with
     | row _ _ A n c _ hvv=>exact .row _ _ A n c rfl hvv
   | succ j=>
     have hj':post'[j]? = some p:=by simpa using hj
     obtain ⟨q,hq,hqp⟩:=hp2 j p hj'
     have:=hrep (j+1) q (by simpa using hq)
     rw [Array.getD_eq_getD_getElem?,hv] at this
     exact (Zol hX2 hqp this).mono (fun _ h=>h.elim) (fun _ _ h=>h) (fun _ _ _ _ h=>h)
  ·obtain ⟨e,he,hpe⟩:=List.mem_flatten.1 (List.mem_of_getElem? hm)
   exact (q4 m p v hm hv).pure_mono (q2 e he p hpe) hzF (fun _ _ _ _ h=>h)
  ·rcases hF with hF | ⟨_,t',g',o',h1,h2⟩
   ·exact (q5 b hb).2 o hF
   ·obtain ⟨h3,h4⟩:=ZfG h1
    exact absurd h2 (hX.apart t t' g g' _ o' b (Ne.symm h3) hob h4 hb)
  ·rw [show g'=(0,0) from e]
  ·rcases hb with hb | hb
   ·exact hX.flt b o hb
   ·exact hb.1
 have hbig:r.W0.heap.size≤x.W.heap.size:=hX.gr.size
 have hcalls:=hc.calls z _ hpre fun W' hW=>by
  rw [← hI]
  exact hX.inv.1 W' (hX.gr.trans' hW.os hW.tape hW.output hW.size fun b hb hD=>hW.block b (Nat.lt_of_lt_of_le hb hbig) fun e=>by
   rcases (hlt b e).2 with h | h
   ·omega
   ·exact hD h)
 unfold Oper.wp
 rw [Zc0 ho hc.isGo,Oper.upon_enter]
 refine hcalls.mono ?_
 rintro e' W' ⟨y,v,rfl,rfl,hpost⟩
 obtain ⟨g0,hv0,hob0⟩:=hpost.ob
 obtain ⟨A,n,c,hsl⟩:=Zlr hob0
 obtain ⟨w1,w2,vs3,w3,w4,w5⟩:=hob0
 rw [hv0] at w3 w5 hsl
 have hnew:¬ x.G (s.ng,i):=fun hg=>by
  rcases hX.gens _ hg with e | ⟨_,e⟩
  ·exact absurd e (Nat.lt_irrefl _)
  ·exact hi e
 let y':Ctx:=⟨fun g=>x.G g∨g=(s.ng,i),x.F,y.W,fun g=>if g=(s.ng,i) then v else x.ρ g⟩
 have hρ:y'.ρ (s.ng,i)=v:=if_pos rfl
 have k2:Step x y':=⟨fun g hg=>⟨.inl hg,if_neg (fun (e:g=(s.ng,i))=>hnew (by rw [← e];exact hg))⟩,fun b o h=>h,fun b o w hF hw=>hpost.step.W b o w (hzF b o hF) hw⟩
 refine ⟨y',rfl,hX.changeF k2 hd hpost.gr.os hpost.gr.tape hpost.gr.output hpost.gr.size (fun b hb hne=>hpost.gr.block b hb fun e=>hne g _ hob e) (fun b o h=>.inl h) (fun b o h=>Nat.lt_of_lt_of_le (hX.flt b o h) hpost.gr.size)
  (fun g' hg'=>?_) (.inr rfl) ⟨w1,w2,vs3,?_,fun m p v hm hv=>?_,fun b hb=>?_⟩ (fun b hb=>?_) ?_⟩
 ·rcases hg' with hg' | rfl
  ·exact (hX.gens g' hg').imp id fun ⟨e1,e2⟩=>⟨e1,.inl e2⟩
  ·exact .inr ⟨rfl,.inr rfl⟩
 ·rw [hρ]
  exact w3
 ·obtain ⟨e,he,hpe⟩:=List.mem_flatten.1 (List.mem_of_getElem? hm)
  exact (w4 m p v hm hv).dry1 (hdry e he p hpe)
 ·rw [hρ] at hb
  refine ⟨?_,fun o hF=>(w5 b hb).2 o (hpost.step.F b o (hzF b o hF))⟩
  rcases (w5 b hb).1 with h | h
  ·exact .inl (Nat.le_trans hbig h)
  ·exact (hlt b h).2
 ·rw [hρ] at hb
  rcases (w5 b hb).1 with h | h
  ·exact .inl h
  ·exact .inr ⟨g,_,hob,h⟩
 ·rw [hsl]
  exact .row _ _ A n c (show x.G (s.ng,i)∨(s.ng,i)=(s.ng,i) from .inr rfl) (hρ.trans hsl)
theorem ZnF {f:FuncId} {es:Array Operand} {ts:Array TypeId} {post post':List PV} {t:Nat} {g:Gen} {E k:Nat} {els els':List (List PV)} (hw:Zb ops s o=some true) (ho:o.op = .call { callee:=.value (.func f),args:=es,argTypes:=ts })
  (he:es.toList.map (ev s) = .row t g::post) (hob:s.ob t=some (g,.row E k false els)) (hp:Ze2 (frz (Zba s.ob t none)) post=some post') (hdry:∀ e ∈ els',∀ p ∈ e,p.dry1=true) (hc:ContractS P f post' E k els els'):OpR P ops i o s ⟨.row t (s.ng,i),[(t,some ((s.ng,i),.row E k false els'))]⟩:=.any hw fun s' r hA hI=>by
 rw [hA.ng]
 obtain ⟨e1,e2,_⟩:=ZcJ ho hA
 refine Zo2 ho (by rw [e1,he]) ?_ ?_ hdry hc hI
 ·rw [← e2 (.row t g) (by rw [he];simp) t (by simp [Zh0,Zc5,Zcz,Zab])]
  exact hob
 ·rw [← hp]
  refine (ZcC fun p hp=>Zk5 fun u hu=>?_).symm
  have:=e2 p (by rw [he];exact List.mem_cons_of_mem _ hp) u (ZjR _ _ _ (fun _ h=>h) u hu)
  unfold Zba
  rw [this]
end
section
variable {P:Program} [WInv P] {ops:Array Oper} {draw:Bool} {i:Nat} {L:List Oper} {acc:List (List Nat×List Nat)} {K:FS→Prop} {tm:List (Nat×PV)} {ob:List (Nat×Option (Gen×VObj))} {ng:Nat}
 {d:Option Tmp} {ty:TypeId} {pos:String} {after:Array Edge} {gd:Option (Nat×Bool)}
theorem Zqu {f:FuncId} {es:Array Operand} {ts:Array TypeId} {post post':List PV} {t:Nat} {g:Gen} {E k:Nat} {els els':List (List PV)} (hc:ContractS P f post' E k els els') (hdry:∀ e ∈ els',∀ p ∈ e,p.dry1=true) (hw:Zb ops (mkS tm ob ng) ⟨d,.call ⟨.value (.func f),es,ts⟩,ty,pos,after,gd⟩=some true)
  (he:es.toList.map (evL tm) = .row t g::post) (hob:Zg ob t=some (g,.row E k false els)) (hp:Ze2 (frz (Zba (Zg ob) t none)) post=some post')
  (kk:GoL P ops draw (i+1) L (acc ++ [(Zr (mkS tm ob ng) ⟨d,.call ⟨.value (.func f),es,ts⟩,ty,pos,after,gd⟩,[t])]) (mkS (Zau d (.row t (ng,i)) tm) ((t,some ((ng,i),.row E k false els'))::ob) ng) K) :
  GoL P ops draw i (⟨d,.call ⟨.value (.func f),es,ts⟩,ty,pos,after,gd⟩::L) acc (mkS tm ob ng) K:=by
 refine ZbR (ZnF hw rfl (by rw [ZB];exact he) hob hp hdry hc) ?_
 rw [Zac]
 exact kk
end
theorem Zr1 {α:Type} {f:α→List PV} (h:∀ x,(f x).all PV.dry1=true) (l:List α):∀ e ∈ l.map f,∀ p ∈ e,p.dry1=true:=fun e he p hp=>by
 obtain ⟨x,_,rfl⟩:=List.mem_map.1 he
 exact List.all_eq_true.1 (h x) p hp
end VL
end Go.Proofs.YtjblgpmagampbaaGreatDoor
namespace Go.Proofs.YtjblgpmagampbaaGreatDoor
namespace VL
open Go.RowKit
section
variable {P:Program} {r:Run} {o:Oper} {i:Nat} {s:FS}
theorem Zs8 {x:Ctx} {B:Nat} {D:Nat→Prop} {g:Gen} {E k m c:Nat} {els:List (List PV)} {A:Option Addr} (h:ObRep x B D g (.qrow E k els)) (hv:x.ρ g = .slice A m c):m=els.length∧els.length≤c∧c≤9223372036854775807∧∃ b off,A=some ⟨b,off,none⟩:=by
 obtain ⟨_,_,b,off,cap,cur,h3,_,h5,h6,_⟩:=h
 rw [hv] at h3
 injection h3 with e1 e2 e3
 subst e3
 exact ⟨e2,h5,by unfold maxLen at h6;omega,b,off,e1⟩
theorem Zr2 {T:TypeId} {e:Operand} {E E' a1 a2 t k:Nat} {a3:List PV} {g:Gen} {els:List (List PV)} (ho:o.op = .call { callee:=.builtin .len,args:=#[e],argTypes:=#[T] }) (ht:tyI P T=some ⟨.slice E,a1,a2,a3⟩)
  (he:ev s e = .row t g) (hob:ZG s.ob t g=some (.qrow E' k els)):OpOK P r o i s ⟨.int .i64 (els.length:Int),[]⟩:=by
 intro S a x Q hX hi hd
 obtain ⟨inf,z,h1,_⟩:=Zt ht
 have hr:=ZE hX e
 obtain ⟨hg,hO⟩:=hX.ob t g _ (ZD hob)
 rw [he] at hr
 generalize hv:a.eval e=v at hr
 cases hr with
 | row _ _ A m c hG hvv=>
   obtain ⟨rfl,_⟩:=Zs8 hO hvv
   refine ZC (v:=.int .i64 (els.length:Int)) (W':=x.W) ?_ (hX.val hd (.int _ _))
   unfold execOp
   rw [ho]
   simp [resolve,invoke,builtin,Builtin.len_,hv,run_underlying h1,goInt]
theorem Zo3 {T:TypeId} {e e':Operand} {E E' a1 a2 t k n:Nat} {a3:List PV} {te:TI} {g:Gen} {els:List (List PV)} {el:List PV} (ho:o.op = .indexAddr T e e') (ht:tyI P T=some ⟨.slice E,a1,a2,a3⟩) (hte:tyI P E=some te) (he:ev s e = .row t g)
  (hn:toNat? (ev s e')=some n) (hob:ZG s.ob t g=some (.qrow E' k els)) (hel:els[n]? = some el) (hk:k=te.size):OpOK P r o i s ⟨.cel el,[]⟩:=by
 intro S a x Q hX hi hd
 subst hk
 obtain ⟨inf,z,h1,_⟩:=Zt ht
 obtain ⟨inf',z',h1',h2',_,h4',_,_⟩:=Zt hte
 have hr:=ZE hX e
 obtain ⟨kd,hidx⟩:=Za3 hn (ZE hX e')
 obtain ⟨hg,hO⟩:=hX.ob t g _ (ZD hob)
 rw [he] at hr
 generalize hv:a.eval e=v at hr
 have hnl:n<els.length:=(List.getElem?_eq_some_iff.1 hel).1
 cases hr with
 | row _ _ A m c hG hvv=>
   obtain ⟨q1,q2,b,off,cap,cur,q3,q4,q5,q6,q7,q8,q9,q10⟩:=hO
   rw [hvv] at q3
   injection q3 with e1 e2 e3
   subst e1 e2 e3
   have hall:∀ j p,el[j]? = some p→p.pure=true∧x.F b (off+n * te.size+j)∧∃ v,x.W.cell? ⟨b,off+n * te.size+j,none⟩=some v∧Rep x p v:=fun j p hp=>by
    have:=q8 n j el p hel hp
    rw [← Nat.add_assoc] at this
    exact ⟨q2 el (List.mem_of_getElem? hel) p (List.mem_of_getElem? hp),this⟩
   refine ZC (v:=.pointer (some ⟨b,off+n * te.size,none⟩)) (W':=x.W) ?_ (hX.val hd (.cel el b (off+n * te.size) (fun j=>(x.W.cell? ⟨b,off+n * te.size+j,none⟩).getD undef) (fun j p hp=>?_) (fun j p hp=>?_)))
   ·unfold execOp
    rw [ho]
    have:(0:Int)≤n∧(n:Int)<els.length:=by omega
    simp [hv,hidx,Instr.indexAt,asIntOf,run_underlying h1,sizeOf,typeInfo,h2',h4',hnl,ZaQ]
   ·obtain ⟨f1,f2,v,f3,f4⟩:=hall j p hp
    exact ⟨f1,f2,by rw [f3];rfl⟩
   ·obtain ⟨f1,f2,v,f3,f4⟩:=hall j p hp
    rw [f3]
    exact f4
theorem Zqw {T:TypeId} {e w:Operand} {E E' a1 a2 t k n:Nat} {a3:List PV} {te:TI} {g:Gen} {els:List (List PV)} (ho:o.op = .slice T e (some w) none none) (ht:tyI P T=some ⟨.slice E,a1,a2,a3⟩) (hte:tyI P E=some te)
  (he:ev s e = .row t g) (hob:ZG s.ob t g=some (.qrow E' k els)) (hn:toNat? (ev s w)=some n) (hnl:n≤els.length) (hk:k=te.size):OpOK P r o i s ⟨.row t (s.ng,i),[(t,some ((s.ng,i),.qrow E' k (els.drop n)))]⟩:=by
 intro S a x Q hX hi hd
 subst hk
 obtain ⟨inf,z,h1,_⟩:=Zt ht
 obtain ⟨inf',z',h1',h2',_,h4',_,_⟩:=Zt hte
 have hr:=ZE hX e
 obtain ⟨kd,hw⟩:=Za3 hn (ZE hX w)
 have hob':=ZD hob
 obtain ⟨hg,hO⟩:=hX.ob t g _ hob'
 rw [he] at hr
 generalize hv:a.eval e=v at hr
 cases hr with
 | row _ _ A m c hG hvv=>
   obtain ⟨q1,q2,b,off,cap,cur,q3,q4,q5,q6,q7,q8,q9,q10⟩:=hO
   have hρ0:=q3
   rw [hvv] at q3
   injection q3 with e1 e2 e3
   subst e1 e2 e3
   have hb:(Instr.sliceBounds true els.length c (some (a.eval w)) none none).run P x.W = .ok (n,els.length,c) x.W:=by
    simp [Instr.sliceBounds,Instr.sliceBound,asIntOf,hw,hnl]
   have hoff:(if c=n then some (⟨b,off,none⟩:Addr) else (some (⟨b,off,none⟩:Addr)).map (·.add (n * te.size)))=some ⟨b,if c=n then off else off+n * te.size,none⟩:=by
    split
    ·rfl
    ·simp only [Option.map_some,ZaQ]
   refine ZC (v:=.slice (some ⟨b,if c=n then off else off+n * te.size,none⟩) (els.length - n) (c - n)) (W':=x.W) ?_ ?_
   ·unfold execOp
    rw [ho]
    simp [hv,Instr.sliceAt,Instr.slice,run_underlying h1,hb,sizeOf,typeInfo,h2',h4']
    have:=hoff
    simp at this
    exact this
   ·refine hX.newObj hi hd rfl rfl rfl (Nat.le_refl _) (fun b hb _=>rfl) (fun b o v hF hv=>hv) (v0:=.slice (some ⟨b,if c=n then off else off+n * te.size,none⟩) (els.length - n) (c - n)) (fun b' hb'=>.inr ⟨g,_,hob',?_⟩) (fun y st hF hW hρ=>⟨fun el hel=>q1 el (List.mem_of_mem_drop hel),fun el hel=>q2 el (List.mem_of_mem_drop hel),b,_,c - n,cur,by rw [hρ,List.length_drop],by rw [hW];exact q4,by rw [List.length_drop];omega,by omega,?_,fun i' j' e' p' he' hp'=>?_,q9,fun hc o' hF'=>?_⟩) (fun y st hW hG hρ=>.row _ _ _ _ _ hG hρ)
    ·rw [hρ0]
     simpa [blk] using hb'
    ·split
     ·rename_i hcn;rw [hcn,Nat.sub_self,Nat.zero_mul];omega
     ·have:n * te.size+(c - n) * te.size=c * te.size:=by rw [← Nat.add_mul];congr 1;omega
      omega
    ·rw [List.getElem?_drop] at he'
     have hlt:n+i'<els.length:=(List.getElem?_eq_some_iff.1 he').1
     rw [if_neg (by omega)]
     obtain ⟨f1,v,f2,f3⟩:=q8 _ j' e' p' he' hp'
     have ea:off+n * te.size+(i' * te.size+j')=off+((n+i') * te.size+j'):=by rw [Nat.add_mul];omega
     rw [ea]
     exact ⟨by rw [hF];exact f1,v,by rw [hW];exact f2,f3.step st⟩
    ·rw [hF] at hF'
     rw [List.length_drop] at hc ⊢
     have:=q10 (by omega) o' hF'
     have e2:n * te.size+(els.length - n) * te.size=els.length * te.size:=by rw [← Nat.add_mul];congr 1;omega
     split
     ·rename_i hcn;omega
     ·omega
theorem Zqx (w:World) (t ty e:TypeId) (i:TypeInfo) (ht:P.underlying t=some (.slice e)) (hi:P.info? e=some i)
  (g off sLen sCap:Nat) (cur:Array Value) (hg:w.heap[g]? = some (.cells cur e (0,0)))
  (a:Addr) (m c:Nat) (news:List Value) (hl:news.length=m * i.size) (hnews:∀ j u,news[j]? = some u→w.cell? (a.add j)=some u) (h1:∀ u ∈ news,u.oneCell'=true)
  (hroom:sLen+m≤sCap) (hfit:off+sLen * i.size+news.length≤cur.size) :
  (Builtin.append_ #[t,t] ty #[.slice (some ⟨g,off,none⟩) sLen sCap,.slice (some a) m c]).run P w =
   .ok (.slice (some ⟨g,off,none⟩) (sLen+m) sCap) (w.setRow g (cur.toList.take (off+sLen * i.size)++news++cur.toList.drop (off+sLen * i.size+news.length)).toArray):=by
 have hf:=run_firstCells_some (P:=P) w i.size m a m c news hl hnews
 have hst:=run_storeCells_at P g (off+sLen * i.size) e news 0 cur w hg (by simpa using hfit) h1
 simp only [Nat.add_zero] at hst
 simp [Builtin.append_,run_underlying ht,sizeOf,typeInfo,hi,Builtin.lenOf,hroom,hf,Addr.add_lit,hst]
theorem ZnG {T:TypeId} {e e':Operand} {E a1 a2 t k:Nat} {a3:List PV} {te:TI} {g:Gen} {els:List (List PV)} {el:List PV} (ho:o.op = .call { callee:=.builtin .append,args:=#[e,e'],argTypes:=#[T,T] }) (ht:tyI P T=some ⟨.slice E,a1,a2,a3⟩) (hte:tyI P E=some te)
  (he:ev s e = .row t g) (hob:ZG s.ob t g=some (.qrow E k els)) (hnew:Zgr s.ob (ev s e')=some [el]) (hks:k=te.size) (hc1:(els.length+1) * te.bytes≤140737488355328) (hc2:els.length+1≤9223372036854775807) (hc3:0<te.size) (hc4:te.zero.length=te.size)
  (hk:el.length=te.size):OpOK P r o i s ⟨.row t (s.ng,i),[(t,some ((s.ng,i),.qrow E k (els ++ [el])))]⟩:=by
 intro S a x Q hX hi hd
 subst hks
 have hr:=ZE hX e
 have hr':=ZE hX e'
 obtain ⟨inf,z,h1,_⟩:=Zt ht
 obtain ⟨inf',z',h1',h2',h3',h4',h5',h6'⟩:=Zt hte
 have run:∀ (v':Value) (W':World),(Builtin.append_ #[T,T] o.type #[a.eval e,a.eval e']).run P x.W = .ok v' W'→(execOp a.eval o).run P x.W = .ok (.value v') W':=fun v' W' hrun=>by
  unfold execOp
  rw [ho]
  simp [resolve,invoke,builtin,hrun]
 have hob':=ZD hob
 obtain ⟨hg,hO⟩:=hX.ob t g _ hob'
 rw [he] at hr
 generalize hv:a.eval e=v at hr run
 generalize hv2:a.eval e'=v2 at hr' run
 obtain ⟨A2,c2,k2,rfl,hc2',_,hkk,hpure,b2,off2,hcell⟩:=Zfu hX hnew hr'
 obtain ⟨rfl,hcell2⟩:=hcell (by simp)
 cases hr with
 | row _ _ A m c hG hvv=>
   obtain ⟨q1,q2,b,off,cap,cur,q3,q4,q5,q6,q7,q8,q9,q10⟩:=hO
   have hρ0:=q3
   rw [hvv] at q3
   injection q3 with e1 e2 e3
   subst e1 e2 e3
   let ws:List Value:=(List.range te.size).map fun j=>(x.W.cell? ⟨b2,off2+j,none⟩).getD undef
   have hwl:ws.length=te.size:=by simp [ws]
   have hnc:∀ j,j<te.size→∃ p u,el[j]? = some p∧x.W.cell? ⟨b2,off2+j,none⟩=some u∧Rep x p u∧p.pure=true∧ws[j]? = some u:=fun j hj=>by
    have hp:el[j]? = some el[j]:=List.getElem?_eq_getElem (by rw [hk];exact hj)
    obtain ⟨u,hu,hru⟩:=hcell2 0 j el el[j] rfl hp
    rw [Nat.zero_mul,Nat.add_zero] at hu
    exact ⟨_,u,hp,hu,hru,hpure el (by simp) _ (List.mem_of_getElem? hp),by simp [ws,hj,hu]⟩
   have hnews:∀ j u,ws[j]? = some u→x.W.cell? ((⟨b2,off2,none⟩:Addr).add j)=some u:=fun j u hu=>by
    have hj:j<te.size:=by rw [← hwl];exact (List.getElem?_eq_some_iff.1 hu).1
    obtain ⟨p,u',_,f2,_,_,f5⟩:=hnc j hj
    rw [f5] at hu
    injection hu with hu
    rw [ZaQ,f2,hu]
   have hone:∀ u ∈ ws,u.oneCell'=true:=fun u hu=>by
    obtain ⟨j,hj⟩:=List.getElem?_of_mem hu
    have hjl:j<te.size:=by rw [← hwl];exact (List.getElem?_eq_some_iff.1 hj).1
    obtain ⟨p,u',_,_,f3,f4,f5⟩:=hnc j hjl
    rw [f5] at hj
    injection hj with hj
    rw [← hj]
    exact f3.one (PV.cell_of_pure f4)
   have hblt:b<x.W.heap.size:=(Array.getElem?_eq_some_iff.1 q4).1
   have hnk:els.length * te.size≤c * te.size:=Nat.mul_le_mul_right _ q5
   have hcur:∀ i' j',i'<els.length→j'<te.size→i' * te.size+j'<els.length * te.size:=fun i' j' h h'=>by
    have:(i'+1) * te.size≤els.length * te.size:=Nat.mul_le_mul_right _ h
    rw [Nat.succ_mul] at this
    omega
   have hnew':¬ x.G (s.ng,i):=fun hg=>by
    rcases hX.gens _ hg with e | ⟨_,e⟩
    ·exact absurd e (Nat.lt_irrefl _)
    ·exact hi e
   have fin:∀ (W':World) (b1 off1 cap1:Nat) (cur1:Array Value),(Builtin.append_ #[T,T] o.type #[.slice (some ⟨b,off,none⟩) els.length c,.slice (some ⟨b2,off2,none⟩) 1 c2]).run P x.W = .ok (.slice (some ⟨b1,off1,none⟩) (els.length+1) cap1) W'→
     W'.os=x.W.os→W'.tape=x.W.tape→W'.output=x.W.output→x.W.heap.size≤W'.heap.size→(∀ b',b'<x.W.heap.size→b'≠b→W'.heap[b']? = x.W.heap[b']?)→W'.heap[b1]? = some (.cells cur1 E (0,0))→(b1=b∨x.W.heap.size≤b1)→els.length+1≤cap1→cap1≤maxLen→off1+cap1 * te.size≤cur1.size→
     (∀ o v,x.F b o→x.W.cell? ⟨b,o,none⟩=some v→W'.cell? ⟨b,o,none⟩=some v)→(∀ m,m<els.length * te.size→cur1[off1+m]? = cur[off+m]?)→(∀ j,j<te.size→cur1[off1+els.length * te.size+j]? = ws[j]?)→(b1=b→∀ o,x.F b o→o<off1+els.length * te.size)→
     o.wp P a x.W (fun a' W'=>∃ y:Ctx,y.W=W'∧RstX r (fun j=>S j∨j=i) (s.app o.dst ⟨.row t (s.ng,i),[(t,some ((s.ng,i),.qrow E te.size (els ++ [el])))]⟩) a' y) Q:=fun W' b1 off1 cap1 cur1 hrun w1 w2 w3 w4 w5 w6 w7 w8 w9 w10 w11 w12 w13 w14=>by
    have hb1:b1<W'.heap.size:=(Array.getElem?_eq_some_iff.1 w6).1
    let y:Ctx:=⟨fun g=>x.G g∨g=(s.ng,i),fun b' o'=>x.F b' o'∨(b'=b1∧o'<off1+(els.length+1) * te.size∧off1≤o'),W',fun g=>if g=(s.ng,i) then .slice (some ⟨b1,off1,none⟩) (els.length+1) cap1 else x.ρ g⟩
    have hρ:y.ρ (s.ng,i) = .slice (some ⟨b1,off1,none⟩) (els.length+1) cap1:=if_pos rfl
    have st:Step x y:=⟨fun g hg=>⟨.inl hg,if_neg (fun (e:g=(s.ng,i))=>hnew' (by rw [← e];exact hg))⟩,fun _ _ h=>.inl h,fun b' o' v' hFF hv'=>by
     by_cases hbb:b'=b
     ·subst hbb;exact w11 o' v' hFF hv'
     ·exact (World.cell?_of_block (w5 b' (hX.flt b' o' hFF) hbb)).trans hv'⟩
    have hlen:(els ++ [el]).length=els.length+1:=by simp
    refine ZC (run _ W' hrun) ⟨y,rfl,hX.changeF st hd w1 w2 w3 w4 (fun b' hb' hne=>w5 b' hb' fun e=>hne g _ hob' (by rw [hρ0,e];rfl)) (fun b' o' h=>?_) (fun b' o' h=>?_) (fun g' hg'=>?_) (.inr rfl)
     ⟨fun e' he'=>?_,fun e' he'=>?_,b1,off1,cap1,cur1,by rw [hρ,hlen],w6,by rw [hlen];exact w8,w9,w10,fun i' j' e' p' he' hp'=>?_,?_,fun _ o' hF'=>?_⟩ (fun b' hb'=>?_) (.row _ _ _ _ _ (show x.G (s.ng,i)∨(s.ng,i)=(s.ng,i) from .inr rfl) hρ)⟩
    ·rcases h with h | ⟨rfl,_⟩
     ·exact .inl h
     ·rcases w7 with rfl | h
      ·exact .inr (.inr ⟨g,_,hob',by rw [hρ0];rfl⟩)
      ·exact .inr (.inl h)
    ·rcases h with h | ⟨rfl,_⟩
     ·exact Nat.lt_of_lt_of_le (hX.flt b' o' h) w4
     ·exact hb1
    ·rcases hg' with hg' | rfl
     ·exact (hX.gens g' hg').imp id fun ⟨e1,e2⟩=>⟨e1,.inl e2⟩
     ·exact .inr ⟨rfl,.inr rfl⟩
    ·rcases List.mem_append.1 he' with h | h
     ·exact q1 e' h
     ·rw [List.mem_singleton.1 h];exact hk
    ·rcases List.mem_append.1 he' with h | h
     ·exact q2 e' h
     ·rw [List.mem_singleton.1 h];exact hpure el (by simp)
    ·have hcell1:∀ o',W'.cell? ⟨b1,o',none⟩=cur1[o']?:=fun o'=>cell_of_row W' b1 o' cur1 E (0,0) w6
     rw [List.getElem?_append] at he'
     split at he'
     ·rename_i hlt
      have hjl:j'<te.size:=by rw [← q1 e' (List.mem_of_getElem? he')];exact (List.getElem?_eq_some_iff.1 hp').1
      obtain ⟨f1,v,f2,f3⟩:=q8 i' j' e' p' he' hp'
      have hm:=hcur i' j' hlt hjl
      refine ⟨.inr ⟨rfl,?_,by omega⟩,v,?_,f3.step st⟩
      ·rw [Nat.succ_mul];omega
      ·rw [hcell1,w12 _ hm,← f2]
       exact (cell_of_row x.W b _ cur E (0,0) q4).symm
     ·rename_i hge
      have hi0:i'=els.length:=by
       have:=(List.getElem?_eq_some_iff.1 he').1
       simp at this
       omega
      subst hi0
      rw [Nat.sub_self] at he'
      injection he' with he'
      subst he'
      have hjl:j'<te.size:=by rw [← hk];exact (List.getElem?_eq_some_iff.1 hp').1
      obtain ⟨p,u,g1,g2,g3,g4,g5⟩:=hnc j' hjl
      rw [hp'] at g1
      injection g1 with g1
      subst g1
      refine ⟨.inr ⟨rfl,?_,by omega⟩,u,?_,g3.step st⟩
      ·rw [Nat.succ_mul];omega
      ·rw [hcell1,← Nat.add_assoc,w13 j' hjl,g5]
    ·rcases w7 with rfl | h
     ·exact q9
     ·exact .inl (Nat.le_trans hX.gr.size h)
    ·rw [hlen]
     rcases hF' with h | ⟨_,h,_⟩
     ·rcases w7 with rfl | h'
      ·have:=w14 rfl o' h
       rw [Nat.succ_mul];omega
      ·have:=hX.flt b1 o' h
       omega
     ·exact h
    ·rw [hρ] at hb'
     have:b1=b':=by simpa [blk] using hb'
     subst this
     rcases w7 with rfl | h
     ·exact .inr ⟨g,_,hob',by rw [hρ0];rfl⟩
     ·exact .inl h
   have hl1:ws.length=1 * inf'.size:=by rw [hwl,h4',Nat.one_mul]
   have hcl:cur.toList.length=cur.size:=Array.length_toList
   by_cases hroom:els.length+1≤c
   ·have hfit:off+els.length * inf'.size+ws.length≤cur.size:=by
     have:(els.length+1) * te.size≤c * te.size:=Nat.mul_le_mul_right _ hroom
     rw [Nat.succ_mul] at this
     rw [h4',hwl]
     omega
    have hrun:=Zqx (P:=P) x.W T o.type E inf' h1 h2' b off els.length c cur q4 ⟨b2,off2,none⟩ 1 c2 ws hl1 hnews hone hroom hfit
    rw [h4',hwl] at hrun hfit
    have hsz:((cur.toList.take (off+els.length * te.size)++ws++cur.toList.drop (off+els.length * te.size+te.size)).toArray).size=cur.size:=by
     simp only [List.size_toArray,List.length_append,List.length_take,List.length_drop,hcl,hwl]
     omega
    have hlow:∀ m,m<off+els.length * te.size→((cur.toList.take (off+els.length * te.size)++ws++cur.toList.drop (off+els.length * te.size+te.size)).toArray)[m]? = cur[m]?:=fun m hm=>by
     rw [List.getElem?_toArray,List.append_assoc,List.getElem?_append_left (by rw [List.length_take,hcl];omega),List.getElem?_take_of_lt hm,Array.getElem?_toList]
    have hheap:=setRow_heap x.W b cur (cur.toList.take (off+els.length * te.size)++ws++cur.toList.drop (off+els.length * te.size+te.size)).toArray E (0,0) q4
    refine fin _ b off c _ hrun rfl rfl rfl (by simp [World.setRow]) (fun b' _ hne=>setRow_other x.W b b' _ hne) hheap (.inl rfl) hroom q6 (by rw [hsz];exact q7) (fun o' v' hF hv'=>?_) (fun m hm=>hlow _ (by omega)) (fun j hj=>?_) (fun _=>q10 hroom)
    ·rw [cell_of_row _ b o' _ E (0,0) hheap,hlow o' (q10 hroom o' hF),← hv']
     exact (cell_of_row x.W b o' cur E (0,0) q4).symm
    ·have hl0:(cur.toList.take (off+els.length * te.size)).length=off+els.length * te.size:=by rw [List.length_take,hcl];omega
     rw [List.getElem?_toArray,List.append_assoc,List.getElem?_append_right (by omega),hl0,Nat.add_sub_cancel_left,List.getElem?_append_left (by omega)]
   ·have hg:c<els.length+1:=by omega
    let olds:List Value:=(cur.toList.drop off).take (els.length * te.size)
    have hol:olds.length=els.length * te.size:=by simp only [olds,List.length_take,List.length_drop,hcl];omega
    have hog:∀ m,m<els.length * te.size→olds[m]? = cur[off+m]?:=fun m hm=>by
     simp only [olds]
     rw [List.getElem?_take_of_lt hm,List.getElem?_drop,Array.getElem?_toList]
    have holds:∀ j u,olds[j]? = some u→x.W.cell? ((⟨b,off,none⟩:Addr).add j)=some u:=fun j u hu=>by
     have hj:j<els.length * te.size:=by rw [← hol];exact (List.getElem?_eq_some_iff.1 hu).1
     rw [ZaQ,cell_of_row x.W b _ cur E (0,0) q4,← hog j hj,hu]
    have hmx:els.length+1≤maxLen:=by unfold maxLen;omega
    have hrun:=run_append_grow (P:=P) x.W T o.type E inf' z' h1 h2' h3' ⟨b,off,none⟩ els.length c olds (by rw [hol,h4']) holds ⟨b2,off2,none⟩ 1 c2 ws hl1 hnews hg (by omega) (growslice_fits (by omega) (by rw [h5'];exact hc1))
    have hge:=grownCap_ge x.W (els.length+1) c E
    have hcm:=grownCap_le_maxLen x.W (els.length+1) c E hmx
    have hzs:z'.cells.size=te.size:=by rw [← hc4,h6'];simp
    refine fin _ x.W.heap.size 0 _ _ hrun rfl rfl rfl (by simp) (fun b' hb' _=>heap_alloc_old x.W.drew _ hb') (heap_alloc_new x.W.drew _) (.inr (Nat.le_refl _)) hge hcm ?_ (fun o' v' hF hv'=>?_) (fun m hm=>?_) (fun j hj=>?_) (fun e=>absurd e (by omega))
    ·simp only [Array.size_append,List.size_toArray,size_zeroCells,hzs,hol,hwl]
     have:(els.length+1) * te.size+(grownCap x.W (els.length+1) c E - (els.length+1)) * te.size=grownCap x.W (els.length+1) c E * te.size:=by rw [← Nat.add_mul];congr 1;omega
     rw [Nat.succ_mul] at this
     omega
    ·exact (World.cell?_of_block (heap_alloc_old x.W.drew _ hblt)).trans hv'
    ·rw [Nat.zero_add,Array.append_assoc,Array.getElem?_append_left (by simp only [List.size_toArray];omega),List.getElem?_toArray,hog m hm]
    ·rw [Nat.zero_add,Array.append_assoc,Array.getElem?_append_right (by simp only [List.size_toArray];omega)]
     simp only [List.size_toArray,hol,Nat.add_sub_cancel_left]
     rw [Array.getElem?_append_left (by simp only [List.size_toArray];omega),List.getElem?_toArray]
end
section
variable {tm:List (Nat×PV)} {ob:List (Nat×Option (Gen×VObj))} {ng:Nat}
theorem ZiK (t:Nat) {g:Gen} {E k:Nat} {els:List (List PV)} (h1:Zg ob t=some (g,.row E k false els)) (hne:els.isEmpty=false):Shift (mkS tm ob ng) (mkS tm ((t,some (g,.qrow E k els))::ob) ng):=fun r a x hX=>by
 obtain ⟨hG,hO⟩:=hX.ob t _ _ h1
 have hO':=hO
 obtain ⟨p1,p2,vs,p3,p4,p5⟩:=hO
 rcases p3.2 with ⟨_,hl⟩ | ⟨b,cap,cur,hv,hB,hh,hnc,hcm,hcs,htake⟩
 ·cases els with
  | nil=>cases hne
  | cons e els=>simp at hl
 ·have hblt:b<x.W.heap.size:=(Array.getElem?_eq_some_iff.1 hh).1
  have hbk:blk (x.ρ g)=some b:=by rw [hv];rfl
  let y:Ctx:=⟨x.G,fun b' o'=>x.F b' o'∨(b'=b∧o'<els.length * k),x.W,x.ρ⟩
  have st:Step x y:=⟨fun _ h=>⟨h,rfl⟩,fun _ _ h=>.inl h,fun _ _ _ _ h=>h⟩
  refine ⟨y,rfl,hX.defers,hX.size,hX.gr,hX.gens,fun t'=>(hX.tm t').step st,fun t' g' o' ho=>?_,fun t1 t2 g1 g2 o1 o2 b' hne' k1 k2 hb=>?_,fun b' o' h=>?_,fun b' o' h=>.inl (hX.f0 b' o' h),fun b' o' h=>?_,hX.rho,hX.inv,hX.keep⟩
  ·change (if t'=t then some (g,VObj.qrow E k els) else Zg ob t')=some (g',o') at ho
   split at ho
   ·injection ho with ho
    injection ho with e1 e2
    subst e1 e2
    refine ⟨hG,p1,p2,b,0,cap,cur,hv,hh,hnc,hcm,by rw [Nat.zero_add,hcs];exact Nat.le_refl _,fun i j e p he hp=>?_,(p5 b hbk).1,fun _ o' hF=>?_⟩
    ·have hlt:i<els.length:=(List.getElem?_eq_some_iff.1 he).1
     have hjk:j<k:=by rw [← p1 e (List.mem_of_getElem? he)];exact (List.getElem?_eq_some_iff.1 hp).1
     obtain ⟨b',n,c,e1,_,_,_,_,hc⟩:=ZdU hO' he
     rw [hv] at e1
     injection e1 with e1
     injection e1 with e1
     injection e1 with e1
     subst e1
     obtain ⟨v,hv2,hr⟩:=hc j p hp
     rw [Nat.zero_add]
     refine ⟨.inr ⟨rfl,?_⟩,v,hv2,hr.step st⟩
     have:(i+1) * k≤els.length * k:=Nat.mul_le_mul_right _ hlt
     rw [Nat.succ_mul] at this
     omega
    ·rcases hF with hF | ⟨_,hF⟩
     ·cases ((p5 b hbk).2 o' hF).1
     ·omega
   ·rename_i hne'
    obtain ⟨h3,h4⟩:=hX.ob t' _ _ ho
    refine ⟨h3,h4.step h3 st fun b' hb'=>⟨rfl,fun o' h=>?_⟩⟩
    rcases h with h | ⟨rfl,_⟩
    ·exact h
    ·exact absurd hb' (hX.apart t t' g g' _ _ b' (Ne.symm hne') h1 ho hbk)
  ·change (if t1=t then some (g,VObj.qrow E k els) else Zg ob t1)=some (g1,o1) at k1
   change (if t2=t then some (g,VObj.qrow E k els) else Zg ob t2)=some (g2,o2) at k2
   have f1:∃ o1',Zg ob t1=some (g1,o1'):=by
    split at k1
    ·rename_i e;subst e;injection k1 with k1;injection k1 with e3 e4;subst e3;exact ⟨_,h1⟩
    ·exact ⟨_,k1⟩
   have f2:∃ o2',Zg ob t2=some (g2,o2'):=by
    split at k2
    ·rename_i e;subst e;injection k2 with k2;injection k2 with e3 e4;subst e3;exact ⟨_,h1⟩
    ·exact ⟨_,k2⟩
   obtain ⟨_,f1⟩:=f1
   obtain ⟨_,f2⟩:=f2
   exact hX.apart t1 t2 _ _ _ _ b' hne' f1 f2 hb
  ·rcases h with h | ⟨rfl,_⟩
   ·exact hX.flt b' o' h
   ·exact hblt
  ·rcases h with h | ⟨rfl,_⟩
   ·exact hX.fnew b' o' h
   ·exact .inr (p5 b' hbk).1
end
end VL
end Go.Proofs.YtjblgpmagampbaaGreatDoor
namespace Go.Proofs.YtjblgpmagampbaaGreatDoor
namespace VL
open Go.RowKit
section
variable {P:Program} [WInv P] {ops:Array Oper} {draw:Bool} {i:Nat} {L:List Oper} {acc:List (List Nat×List Nat)} {K:FS→Prop} {tm:List (Nat×PV)} {ob:List (Nat×Option (Gen×VObj))} {ng:Nat}
 {d:Option Tmp} {ty:TypeId} {pos:String} {after:Array Edge} {gd:Option (Nat×Bool)} {T:TypeId} {x y:Operand} {E E' kk by_:Nat} {z:List PV} {t:Nat} {g:Gen} {α:Type} {f:α→List PV} {M M':List α} {a:α}
theorem Zth [Sl P T E kk by_ z] (hw:Zb ops (mkS tm ob ng) ⟨d,.call ⟨.builtin .len,#[x],#[T]⟩,ty,pos,after,gd⟩=some true) (hx:evL tm x = .row t g) (hb:ZG (Zg ob) t g=some (.qrow E' kk (M.map f)))
  (k:GoL P ops draw (i+1) L (acc ++ [(Zr (mkS tm ob ng) ⟨d,.call ⟨.builtin .len,#[x],#[T]⟩,ty,pos,after,gd⟩,[])]) (mkS (Zau d (.int .i64 (M.length:Int)) tm) ob ng) K):GoL P ops draw i (⟨d,.call ⟨.builtin .len,#[x],#[T]⟩,ty,pos,after,gd⟩::L) acc (mkS tm ob ng) K:=by
 obtain ⟨s,b,zz,te,q1,q2,q3,_,_,_,_⟩:=Za7 (P:=P) (T:=T) (E:=E) (k:=kk) (by_:=by_) (z:=z)
 refine ZbR (u:=⟨.int .i64 (M.length:Int),[]⟩) (.any hw fun s' r hA hI=>?_) ?_
 ·have e1:ev s' x = .row t g:=by rw [← hA.ev x (by simp [Op.operands,Call.operands])];exact (congrFun (ZB tm ob ng) x).trans hx
  have:=Zr2 (P:=P) (r:=r) (i:=i) (s:=s') (o:=⟨d,.call ⟨.builtin .len,#[x],#[T]⟩,ty,pos,after,gd⟩) rfl q1 e1 (by rw [Zaj hA (e:=x) (by simp [Op.operands,Call.operands]) rfl rfl (by rw [ZB,hx];simp [Zab])];exact hb)
  rw [List.length_map] at this
  exact this
 ·rw [Zac]
  exact k
theorem ZqR [Sl P T E kk by_ z] (hw:Zb ops (mkS tm ob ng) ⟨d,.indexAddr T x y,ty,pos,after,gd⟩=some true) {kd:IntKind} {q:Int} (he:atI M q=some a) (hx:evL tm x = .row t g) (hb:ZG (Zg ob) t g=some (.qrow E' kk (M.map f))) (hy:evL tm y = .int kd q)
  (k:GoL P ops draw (i+1) L (acc ++ [(Zr (mkS tm ob ng) ⟨d,.indexAddr T x y,ty,pos,after,gd⟩,[])]) (mkS (Zau d (.cel (f a)) tm) ob ng) K):GoL P ops draw i (⟨d,.indexAddr T x y,ty,pos,after,gd⟩::L) acc (mkS tm ob ng) K:=by
 obtain ⟨s,b,zz,te,q1,q2,q3,_,_,_,_⟩:=Za7 (P:=P) (T:=T) (E:=E) (k:=kk) (by_:=by_) (z:=z)
 obtain ⟨h0,h1⟩:=Zga he
 refine ZbR (u:=⟨.cel (f a),[]⟩) (.any hw fun s' r hA hI=>?_) ?_
 ·have e1:ev s' x = .row t g:=by rw [← hA.ev x (by simp [Op.operands])];exact (congrFun (ZB tm ob ng) x).trans hx
  have e2:toNat? (ev s' y)=some q.toNat:=by
   rw [← hA.ev y (by simp [Op.operands]),ZB,hy]
   simp [toNat?,h0]
  exact Zo3 rfl q1 q2 e1 e2 (by rw [Zaj hA (e:=x) (by simp [Op.operands]) rfl rfl (by rw [ZB,hx];simp [Zab])];exact hb) (ZiC h1) q3.symm
 ·rw [Zac]
  exact k
theorem Zsh {w:Operand} [Sl P T E kk by_ z] (hw:Zb ops (mkS tm ob ng) ⟨d,.slice T x (some w) none none,ty,pos,after,gd⟩=some true) {kd:IntKind} {q:Int} (hs:Zjm M q (M.length:Int)=some M') (hx:evL tm x = .row t g) (hb:ZG (Zg ob) t g=some (.qrow E' kk (M.map f))) (hy:evL tm w = .int kd q)
  (k:GoL P ops draw (i+1) L (acc ++ [(Zr (mkS tm ob ng) ⟨d,.slice T x (some w) none none,ty,pos,after,gd⟩,[t])]) (mkS (Zau d (.row t (ng,i)) tm) ((t,some ((ng,i),.qrow E' kk (M'.map f)))::ob) ng) K):GoL P ops draw i (⟨d,.slice T x (some w) none none,ty,pos,after,gd⟩::L) acc (mkS tm ob ng) K:=by
 obtain ⟨s,b,zz,te,q1,q2,q3,_,_,_,_⟩:=Za7 (P:=P) (T:=T) (E:=E) (k:=kk) (by_:=by_) (z:=z)
 obtain ⟨h0,h1,h2,h3⟩:=Zkq hs
 have hM:M'.map f=(M.map f).drop q.toNat:=by
  rw [h3,← List.map_drop,List.take_of_length_le (by rw [List.length_drop];omega)]
 rw [hM] at k
 refine ZbR (u:=⟨.row t (ng,i),[(t,some ((ng,i),.qrow E' kk ((M.map f).drop q.toNat)))]⟩) (.any hw fun s' r hA hI=>?_) ?_
 ·have e1:ev s' x = .row t g:=by rw [← hA.ev x (by simp [Op.operands])];exact (congrFun (ZB tm ob ng) x).trans hx
  have e2:toNat? (ev s' w)=some q.toNat:=by
   rw [← hA.ev w (by simp [Op.operands]),ZB,hy]
   simp [toNat?,h0]
  have e3:ng=s'.ng:=hA.ng
  rw [e3]
  exact Zqw rfl q1 q2 e1 (by rw [Zaj hA (e:=x) (by simp [Op.operands]) rfl rfl (by rw [ZB,hx];simp [Zab])];exact hb) e2 (by rw [List.length_map];omega) q3.symm
 ·rw [Zac]
  exact k
theorem Zti {dd:Nat} [Sl P T E kk by_ z] (hw:Zb ops (mkS tm ob ng) ⟨some dd,.call ⟨.builtin .append,#[x,y],#[T,T]⟩,ty,pos,after,gd⟩=some true) (hs:ZfA by_ M [a]=some M') (hf:∀ x,(f x).length=kk) (hx:evL tm x = .row t g) (hb:ZG (Zg ob) t g=some (.qrow E kk (M.map f))) {new:List (List PV)} (hy:Zgr (Zg ob) (evL tm y)=some new) (hn:new = [f a])
  (k:GoL P ops draw (i+1) L (acc ++ [(Zr (mkS tm ob ng) ⟨some dd,.call ⟨.builtin .append,#[x,y],#[T,T]⟩,ty,pos,after,gd⟩,[t])]) (mkS ((dd,.row t (ng,i))::tm) ((t,some ((ng,i),.qrow E kk (M'.map f)))::ob) ng) K) :
  GoL P ops draw i (⟨some dd,.call ⟨.builtin .append,#[x,y],#[T,T]⟩,ty,pos,after,gd⟩::L) acc (mkS tm ob ng) K:=by
 obtain ⟨s,b,zz,te,q1,q2,q3,q4,q5,q6,q7⟩:=Za7 (P:=P) (T:=T) (E:=E) (k:=kk) (by_:=by_) (z:=z)
 subst hn
 obtain ⟨h1,h2,rfl⟩:=Zb0 hs
 rw [List.map_append] at k
 refine ZbR (u:=⟨.row t (ng,i),[(t,some ((ng,i),.qrow E kk (M.map f ++ [f a])))]⟩) (.any hw fun s' r hA hI=>?_) ?_
 ·have e1:ev s' x = .row t g:=by rw [← hA.ev x (by simp [Op.operands,Call.operands])];exact (congrFun (ZB tm ob ng) x).trans hx
  have e3:ng=s'.ng:=hA.ng
  rw [e3]
  refine ZnG rfl q1 q2 e1 (by rw [Zaj hA (e:=x) (by simp [Op.operands,Call.operands]) rfl rfl (by rw [ZB,hx];simp [Zab])];exact hb) ?_ q3.symm (by rw [q4,List.length_map];simpa using h1) (by rw [List.length_map];simpa using h2) (by rw [q3];exact q6) (by rw [q5,q3];exact q7) (by rw [q3];exact hf a)
  rw [← hA.ev y (by simp [Op.operands,Call.operands]),ZB,← hy]
  exact (Zg8 fun u hu=>hA.key (e:=y) (by simp [Op.operands,Call.operands]) rfl rfl u (Zb7 (Ze6 (by rw [ZB];exact hu)))).symm
 ·rw [Zac]
  exact k
end
end VL
end Go.Proofs.YtjblgpmagampbaaGreatDoor
set_option maxHeartbeats 4000000
set_option maxRecDepth 100000
namespace Go.Proofs.YtjblgpmagampbaaGreatDoor
open VL
def ZaM (p0:ByteArray) (p1:ByteArray):Option Bool:=
 letk (fun (x2:Bool)=>
  (some x2:Option Bool)) fun k1=>
 if (decide ((p1.size:Int)≤(p0.size:Int))) then
  (ZhC p0 (w64 ((p0.size:Int) - (p1.size:Int))) (p0.size:Int)).bind fun l3=>
  k1 (decide (l3=p1))
 else
 k1 false
theorem Zcy (p0:ByteArray) (p1:ByteArray) (r:Bool) (h:ZaM p0 p1=some r):Zd Tryz.prog 372 [.str p0,.str p1] (.bool r):=by
 refine cF (fun r=>.bool r) h mix Tryz.func372 fun r h=>?_
 unfold ZaM at h
 refine Zj ?_
 refine rg ?_
 refine jL h (fun x2=>mkS [(4,.bool x2)] [] 2) (fun k1 h=>?_) fun x2 h=>?_
 ·refine rg ?_
  refine kS 10 h rfl (fun h=>?_) fun h=>?_
  ·refine sS h fun l3 h=>?_
   exact jn (decide (l3=p1)) h (sR [])
  iterate 9 refine ZI rfl (Zj ?_)
  exact jn false h (sR [])
 cases h
 exact rQ
def ZaC (p0:ByteArray) (p1:ByteArray):Option ByteArray:=
 (ZaM p0 p1).bind fun r1=>
 if r1 then
  (ZhC p0 0 (w64 ((p0.size:Int) - (p1.size:Int)))).bind fun l3=>
  (some l3:Option ByteArray)
 else
 (some p0:Option ByteArray)
theorem Zcs (p0:ByteArray) (p1:ByteArray) (r:ByteArray) (h:ZaC p0 p1=some r):Zd Tryz.prog 368 [.str p0,.str p1] (.str r):=by
 refine cF (fun r=>.str r) h mix Tryz.func368 fun r h=>?_
 unfold ZaC at h
 refine Zj ?_
 refine rg ?_
 refine rg ?_
 refine aC h (Zcy _ _) fun r1 h=>?_
 refine cS h rfl (fun h=>?_) fun h=>?_
 ·refine rg ?_
  refine sS h fun l3 h=>?_
  cases h
  exact rQ
 refine rg ?_
 cases h
 exact rQ
def strings_TrimSuffix (p0:ByteArray) (p1:ByteArray):Option ByteArray:=
 (ZaC p0 p1).bind fun r1=>
 (some r1:Option ByteArray)
theorem ZfV (p0:ByteArray) (p1:ByteArray) (r:ByteArray) (h:strings_TrimSuffix p0 p1=some r):Zd Tryz.prog 350 [.str p0,.str p1] (.str r):=by
 refine cF (fun r=>.str r) h mix Tryz.func350 fun r h=>?_
 unfold strings_TrimSuffix at h
 refine Zj ?_
 refine rg ?_
 refine rg ?_
 refine aC h (Zcs _ _) fun r1 h=>?_
 cases h
 exact rQ
def Zfo (p0:ByteArray):Option ByteArray:=
 (Zsc 1 (p0.size:Int)).bind fun _=>
 Zas Zck (fun f17 ((x63,x64):Int×(List Int))=>
  if (decide (x63<(p0.size:Int))) then
   letk (fun (x87:List Int)=>
    f17 ((w64 (x63+1)),x87)) fun k19=>
   letk (fun (x90:Bool)=>
    if x90 then
     (atS p0 x63).bind fun c91=>
     (ZfA 1 x64 [c91]).bind fun l92=>
     k19 l92
    else
    k19 x64) fun k20=>
   (atS p0 x63).bind fun c93=>
   if (!decide (c93=32)) then
    k20 true
   else
   if (decide (0<(x64.length:Int))) then
    (atI x64 (w64 ((x64.length:Int) - 1))).bind fun e94=>
    k20 (!decide (e94=32))
   else
   k20 false
  else
  (strings_TrimSuffix (strOfNums x64) (⟨#[32]⟩:ByteArray)).bind fun r95=>
  (some r95:Option ByteArray)) (0,([]:List Int))
theorem Zjx (p0:ByteArray) (r:ByteArray) (h:Zfo p0=some r):Zd Tryz.prog 318 [.str p0] (.str r):=by
 refine cF (fun r=>.str r) h mix Tryz.func318 fun r h=>?_
 unfold Zfo at h
 refine Zj ?_
 refine rg ?_
 refine rg ?_
 obtain ⟨_,h1,h⟩:=bnd h
 refine Zsd csB rfl rfl rfl h1 (Zj ?_)
 refine rg ?_
 refine bl ?_
 refine Zu h fun f17 mf17 hf17 h=>?_
 refine Zq (α:=Nat×(Int×(List Int))) (fun a _=>mkS [(0,.str p0),(3,.row 7 (1,7)),(4,.int .i64 a.2.1)] [(7,some ((1,7),.row 5 1 false (List.map csB a.2.2)))] 2) (fun a=>Zas a.1 f17 a.2=some r) (fun a=>a.1) (mf17,0,([]:List Int)) 2 h (sR [(7,2,2)]) (fun a _ h=>?_)
 obtain ⟨mf17,x63,x64⟩:=a
 obtain ⟨mf17,rfl,h⟩:=Zv hf17 h
 dsimp only at h ⊢
 refine Zj ?_
 refine rg ?_
 refine cS h rfl (fun h=>?_) fun h=>?_
 ·refine jL h (fun x87=>mkS [(0,.str p0),(3,.row 7 (1,7)),(4,.int .i64 x63)] [(7,some ((1,7),.row 5 1 false (List.map csB x87)))] 2) (fun k19 h=>?_) fun x87 h=>?_
  ·refine bl ?_
   refine jL h (fun x90=>mkS [(0,.str p0),(3,.row 7 (1,7)),(4,.int .i64 x63),(31,.bool x90)] [(7,some ((1,7),.row 5 1 false (List.map csB x64)))] 2) (fun k20 h=>?_) fun x90 h=>?_
   ·refine rg ?_
    refine aS h fun c93 h=>?_
    refine kS 18 h rfl (fun h=>?_) fun h=>?_
    ·iterate 12 refine ZI rfl (Zj ?_)
     exact jn true h (sR [(7,1,7)])
    refine lM csB x64 ?_
    refine kS 22 h rfl (fun h=>?_) fun h=>?_
    ·refine lM csB x64 ?_
     obtain ⟨e94,h73,h⟩:=bnd h
     refine Zw rfl h73 rfl rfl rfl (Zj ?_)
     refine ZM rfl h73 rfl rfl rfl (Zj ?_)
     exact jn (!decide (e94=32)) h (sR [(7,1,7)])
    iterate 7 refine ZI rfl (Zj ?_)
    exact jn false h (sR [(7,1,7)])
   refine cS h rfl (fun h=>?_) fun h=>?_
   ·refine rg ?_
    refine aS h fun c91 h=>?_
    refine bM csB ([c91]:List Int) ?_
    refine pR csB h fun l92 h=>?_
    exact jn l92 h (sR [(7,2,5)])
   exact jn x64 h (sR [(7,1,7)])
  refine rg ?_
  exact rn (mf17,(w64 (x63+1)),x87) h (sR [(7,1,7)])
 refine rg ?_
 refine Zm8 (l:=x64) rfl rfl (Zj ?_)
 refine aC h (ZfV _ _) fun r95 h=>?_
 cases h
 exact rQ
def ZQ (p0:ByteArray) (p1:ByteArray):Option Bool:=
 letk (fun (x2:Bool)=>
  (some x2:Option Bool)) fun k1=>
 if (decide ((p1.size:Int)≤(p0.size:Int))) then
  (ZhC p0 0 (p1.size:Int)).bind fun l3=>
  k1 (decide (l3=p1))
 else
 k1 false
theorem Zat (p0:ByteArray) (p1:ByteArray) (r:Bool) (h:ZQ p0 p1=some r):Zd Tryz.prog 312 [.str p0,.str p1] (.bool r):=by
 refine cF (fun r=>.bool r) h mix Tryz.func312 fun r h=>?_
 unfold ZQ at h
 refine Zj ?_
 refine rg ?_
 refine jL h (fun x2=>mkS [(4,.bool x2)] [] 2) (fun k1 h=>?_) fun x2 h=>?_
 ·refine rg ?_
  refine kS 10 h rfl (fun h=>?_) fun h=>?_
  ·refine sS h fun l3 h=>?_
   exact jn (decide (l3=p1)) h (sR [])
  iterate 6 refine ZI rfl (Zj ?_)
  exact jn false h (sR [])
 cases h
 exact rQ
def ZX (p0:ByteArray) (p1:ByteArray):Option Bool:=
 (ZQ p0 p1).bind fun r1=>
 (some r1:Option Bool)
theorem ZZ (p0:ByteArray) (p1:ByteArray) (r:Bool) (h:ZX p0 p1=some r):Zd Tryz.prog 254 [.str p0,.str p1] (.bool r):=by
 refine cF (fun r=>.bool r) h mix Tryz.func254 fun r h=>?_
 unfold ZX at h
 refine Zj ?_
 refine rg ?_
 refine rg ?_
 refine aC h (Zat _ _) fun r1 h=>?_
 cases h
 exact rQ
def ZaD (p0:ByteArray) (p1:ByteArray):Option ByteArray:=
 (ZQ p0 p1).bind fun r1=>
 if r1 then
  (ZhC p0 (p1.size:Int) (p0.size:Int)).bind fun l3=>
  (some l3:Option ByteArray)
 else
 (some p0:Option ByteArray)
theorem Zct (p0:ByteArray) (p1:ByteArray) (r:ByteArray) (h:ZaD p0 p1=some r):Zd Tryz.prog 352 [.str p0,.str p1] (.str r):=by
 refine cF (fun r=>.str r) h mix Tryz.func352 fun r h=>?_
 unfold ZaD at h
 refine Zj ?_
 refine rg ?_
 refine rg ?_
 refine aC h (Zat _ _) fun r1 h=>?_
 refine cS h rfl (fun h=>?_) fun h=>?_
 ·refine rg ?_
  refine sS h fun l3 h=>?_
  cases h
  exact rQ
 refine rg ?_
 cases h
 exact rQ
def Zbz (p0:ByteArray) (p1:ByteArray):Option ByteArray:=
 (ZaD p0 p1).bind fun r1=>
 (some r1:Option ByteArray)
theorem Zde (p0:ByteArray) (p1:ByteArray) (r:ByteArray) (h:Zbz p0 p1=some r):Zd Tryz.prog 320 [.str p0,.str p1] (.str r):=by
 refine cF (fun r=>.str r) h mix Tryz.func320 fun r h=>?_
 unfold Zbz at h
 refine Zj ?_
 refine rg ?_
 refine rg ?_
 refine aC h (Zct _ _) fun r1 h=>?_
 cases h
 exact rQ
def ZbV (p0:ByteArray) (p1:Int):Option ByteArray:=
 Zas Zck (fun f7 (x18:ByteArray)=>
  letk (fun (x24:Bool)=>
   if x24 then
    (ZhC x18 1 (x18.size:Int)).bind fun l25=>
    f7 l25
   else
   (some x18:Option ByteArray)) fun k8=>
  if (decide (0<(x18.size:Int))) then
   (atS x18 0).bind fun c26=>
   k8 (decide (c26=p1))
  else
  k8 false) p0
theorem Ze5 (p0:ByteArray) (p1:Int) (r:ByteArray) (h:ZbV p0 p1=some r):Zd Tryz.prog 259 [.str p0,.int .u8 p1] (.str r):=by
 refine cF (fun r=>.str r) h mix Tryz.func259 fun r h=>?_
 unfold ZbV at h
 refine Zj ?_
 refine rg ?_
 refine bl ?_
 refine Zu h fun f7 mf7 hf7 h=>?_
 refine Zq (α:=Nat×ByteArray) (fun a _=>mkS [(0,.str a.2),(1,.int .u8 p1)] [] 2) (fun a=>Zas a.1 f7 a.2=some r) (fun a=>a.1) (mf7,p0) 2 h (sR []) (fun a _ h=>?_)
 obtain ⟨mf7,x18⟩:=a
 obtain ⟨mf7,rfl,h⟩:=Zv hf7 h
 dsimp only at h ⊢
 refine Zj ?_
 refine jL h (fun x24=>mkS [(0,.str x18),(1,.int .u8 p1),(13,.bool x24)] [] 2) (fun k8 h=>?_) fun x24 h=>?_
 ·refine rg ?_
  refine kS 8 h rfl (fun h=>?_) fun h=>?_
  ·refine aS h fun c26 h=>?_
   exact jn (decide (c26=p1)) h (sR [])
  iterate 4 refine ZI rfl (Zj ?_)
  exact jn false h (sR [])
 refine cS h rfl (fun h=>?_) fun h=>?_
 ·refine bl ?_
  refine rg ?_
  refine sS h fun l25 h=>?_
  exact rn (mf7,l25) h (sR [])
 refine rg ?_
 cases h
 exact rQ
def Zda (p0:ByteArray) (p1:ByteArray):Option ByteArray:=
 letk (fun (x1:Bool)=>
  if x1 then
   (some p0:Option ByteArray)
  else
  letk (fun (x3:Bool)=>
   if x3 then
    (atS p1 0).bind fun c6=>
    (ZbV p0 c6).bind fun r7=>
    (some r7:Option ByteArray)
   else
   (none:Option ByteArray)) fun k2=>
  if (decide ((p1.size:Int)=1)) then
   (atS p1 0).bind fun c8=>
   k2 (decide (c8<128))
  else
  k2 false) fun k1=>
 if (decide (p0=(⟨#[]⟩:ByteArray))) then
  k1 true
 else
 k1 (decide (p1=(⟨#[]⟩:ByteArray)))
theorem ZgW (p0:ByteArray) (p1:ByteArray) (r:ByteArray) (h:Zda p0 p1=some r):Zd Tryz.prog 175 [.str p0,.str p1] (.str r):=by
 refine cF (fun r=>.str r) h mix Tryz.func175 fun r h=>?_
 unfold Zda at h
 refine Zj ?_
 refine rg ?_
 refine jL h (fun x1=>mkS [(0,.str p0),(1,.str p1),(12,.bool x1)] [] 2) (fun k1 h=>?_) fun x1 h=>?_
 ·refine rg ?_
  refine kS 9 h rfl (fun h=>?_) fun h=>?_
  ·iterate 2 refine ZI rfl (Zj ?_)
   exact jn true h (sR [])
  exact jn (decide (p1=(⟨#[]⟩:ByteArray))) h (sR [])
 refine cS h rfl (fun h=>?_) fun h=>?_
 ·refine rg ?_
  cases h
  exact rQ
 refine jL h (fun x3=>mkS [(0,.str p0),(1,.str p1),(21,.bool x3)] [] 2) (fun k2 h=>?_) fun x3 h=>?_
 ·refine rg ?_
  refine kS 17 h rfl (fun h=>?_) fun h=>?_
  ·refine aS h fun c8 h=>?_
   exact jn (decide (c8<128)) h (sR [])
  iterate 3 refine ZI rfl (Zj ?_)
  exact jn false h (sR [])
 refine cS h rfl (fun h=>?_) fun h=>?_
 ·refine rg ?_
  refine aS h fun c6 h=>?_
  refine aC h (Ze5 _ _) fun r7 h=>?_
  cases h
  exact rQ
 cases h
def ZbH (p0:ByteArray) (p1:Int):Option ByteArray:=
 Zas Zck (fun f7 (x18:ByteArray)=>
  letk (fun (x24:Bool)=>
   if x24 then
    (ZhC x18 0 (w64 ((x18.size:Int) - 1))).bind fun l25=>
    f7 l25
   else
   (some x18:Option ByteArray)) fun k8=>
  if (decide (0<(x18.size:Int))) then
   (atS x18 (w64 ((x18.size:Int) - 1))).bind fun c26=>
   k8 (decide (c26=p1))
  else
  k8 false) p0
theorem ZeP (p0:ByteArray) (p1:Int) (r:ByteArray) (h:ZbH p0 p1=some r):Zd Tryz.prog 345 [.str p0,.int .u8 p1] (.str r):=by
 refine cF (fun r=>.str r) h mix Tryz.func345 fun r h=>?_
 unfold ZbH at h
 refine Zj ?_
 refine rg ?_
 refine bl ?_
 refine Zu h fun f7 mf7 hf7 h=>?_
 refine Zq (α:=Nat×ByteArray) (fun a _=>mkS [(0,.str a.2),(1,.int .u8 p1)] [] 2) (fun a=>Zas a.1 f7 a.2=some r) (fun a=>a.1) (mf7,p0) 2 h (sR []) (fun a _ h=>?_)
 obtain ⟨mf7,x18⟩:=a
 obtain ⟨mf7,rfl,h⟩:=Zv hf7 h
 dsimp only at h ⊢
 refine Zj ?_
 refine jL h (fun x24=>mkS [(0,.str x18),(1,.int .u8 p1),(16,.bool x24)] [] 2) (fun k8 h=>?_) fun x24 h=>?_
 ·refine rg ?_
  refine kS 8 h rfl (fun h=>?_) fun h=>?_
  ·refine aS h fun c26 h=>?_
   exact jn (decide (c26=p1)) h (sR [])
  iterate 7 refine ZI rfl (Zj ?_)
  exact jn false h (sR [])
 refine cS h rfl (fun h=>?_) fun h=>?_
 ·refine bl ?_
  refine rg ?_
  refine sS h fun l25 h=>?_
  exact rn (mf7,l25) h (sR [])
 refine rg ?_
 cases h
 exact rQ
def ZcL (p0:ByteArray) (p1:ByteArray):Option ByteArray:=
 letk (fun (x1:Bool)=>
  if x1 then
   (some p0:Option ByteArray)
  else
  letk (fun (x3:Bool)=>
   if x3 then
    (atS p1 0).bind fun c6=>
    (ZbH p0 c6).bind fun r7=>
    (some r7:Option ByteArray)
   else
   (none:Option ByteArray)) fun k2=>
  if (decide ((p1.size:Int)=1)) then
   (atS p1 0).bind fun c8=>
   k2 (decide (c8<128))
  else
  k2 false) fun k1=>
 if (decide (p0=(⟨#[]⟩:ByteArray))) then
  k1 true
 else
 k1 (decide (p1=(⟨#[]⟩:ByteArray)))
theorem Zgm (p0:ByteArray) (p1:ByteArray) (r:ByteArray) (h:ZcL p0 p1=some r):Zd Tryz.prog 356 [.str p0,.str p1] (.str r):=by
 refine cF (fun r=>.str r) h mix Tryz.func356 fun r h=>?_
 unfold ZcL at h
 refine Zj ?_
 refine rg ?_
 refine jL h (fun x1=>mkS [(0,.str p0),(1,.str p1),(12,.bool x1)] [] 2) (fun k1 h=>?_) fun x1 h=>?_
 ·refine rg ?_
  refine kS 9 h rfl (fun h=>?_) fun h=>?_
  ·iterate 2 refine ZI rfl (Zj ?_)
   exact jn true h (sR [])
  exact jn (decide (p1=(⟨#[]⟩:ByteArray))) h (sR [])
 refine cS h rfl (fun h=>?_) fun h=>?_
 ·refine rg ?_
  cases h
  exact rQ
 refine jL h (fun x3=>mkS [(0,.str p0),(1,.str p1),(21,.bool x3)] [] 2) (fun k2 h=>?_) fun x3 h=>?_
 ·refine rg ?_
  refine kS 17 h rfl (fun h=>?_) fun h=>?_
  ·refine aS h fun c8 h=>?_
   exact jn (decide (c8<128)) h (sR [])
  iterate 3 refine ZI rfl (Zj ?_)
  exact jn false h (sR [])
 refine cS h rfl (fun h=>?_) fun h=>?_
 ·refine rg ?_
  refine aS h fun c6 h=>?_
  refine aC h (ZeP _ _) fun r7 h=>?_
  cases h
  exact rQ
 cases h
def ZeQ (p0:ByteArray):Option ByteArray:=
 (strings_Split p0 (⟨#[47]⟩:ByteArray)).bind fun r1=>
 Zas Zck (fun f13 ((x60,x61):Int×(List ByteArray))=>
  if (decide (x60<(r1.length:Int))) then
   letk (fun (x93:List ByteArray)=>
    f13 ((w64 (x60+1)),x93)) fun k15=>
   letk (fun (x97:List ByteArray)=>
    if (decide (x60<(w64 ((x97.length:Int) - 1)))) then
     (atI x97 x60).bind fun e98=>
     (ZcL e98 (⟨#[32]⟩:ByteArray)).bind fun r99=>
     (atI x97 x60).bind fun e100=>
     k15 (ZdH x97 x60 r99)
    else
    k15 x97) fun k16=>
   if (decide (0<x60)) then
    (atI x61 x60).bind fun e101=>
    (Zda e101 (⟨#[32]⟩:ByteArray)).bind fun r102=>
    (atI x61 x60).bind fun e103=>
    k16 (ZdH x61 x60 r102)
   else
   k16 x61
  else
  (strings_Join x61 (⟨#[47]⟩:ByteArray)).bind fun r104=>
  (some r104:Option ByteArray)) (0,r1)
theorem Zja (p0:ByteArray) (r:ByteArray) (h:ZeQ p0=some r):Zd Tryz.prog 322 [.str p0] (.str r):=by
 refine cF (fun r=>.str r) h mix Tryz.func322 fun r h=>?_
 unfold ZeQ at h
 refine Zj ?_
 refine rg ?_
 refine rg ?_
 refine aN h (Zjd _ _) fun r1 h=>?_
 refine rg ?_
 refine lM csS r1 ?_
 refine bl ?_
 refine Zu h fun f13 mf13 hf13 h=>?_
 refine Zq (α:=Nat×(Int×(List ByteArray))) (fun a _=>mkS [(3,.row 6 (1,6)),(8,.int .i64 (r1.length:Int)),(9,.int .i64 a.2.1)] [(6,some ((1,6),.row 9 1 false (List.map csS a.2.2)))] 2) (fun a=>Zas a.1 f13 a.2=some r) (fun a=>a.1) (mf13,0,r1) 2 h (sR [(6,2,1)]) (fun a _ h=>?_)
 obtain ⟨mf13,x60,x61⟩:=a
 obtain ⟨mf13,rfl,h⟩:=Zv hf13 h
 dsimp only at h ⊢
 refine Zj ?_
 refine rg ?_
 refine cS h rfl (fun h=>?_) fun h=>?_
 ·refine jL h (fun x93=>mkS [(3,.row 6 (1,6)),(8,.int .i64 (r1.length:Int)),(9,.int .i64 x60)] [(6,some ((1,6),.row 9 1 false (List.map csS x93)))] 2) (fun k15 h=>?_) fun x93 h=>?_
  ·refine bl ?_
   refine rg ?_
   refine rg ?_
   refine jL h (fun x97=>mkS [(3,.row 6 (1,6)),(4,.int .i64 x60),(8,.int .i64 (r1.length:Int)),(9,.int .i64 x60)] [(6,some ((1,6),.row 9 1 false (List.map csS x97)))] 2) (fun k16 h=>?_) fun x97 h=>?_
   ·refine cS h rfl (fun h=>?_) fun h=>?_
    ·refine rg ?_
     obtain ⟨e101,h83,h⟩:=bnd h
     refine Zw rfl h83 rfl rfl rfl (Zj ?_)
     refine ZM rfl h83 rfl rfl rfl (Zj ?_)
     refine aC h (ZgW _ _) fun r102 h=>?_
     obtain ⟨e103,h85,h⟩:=bnd h
     refine Zw rfl h85 rfl rfl rfl (Zj ?_)
     refine Zbb (e':=r102) rfl h85 rfl rfl rfl rfl rfl rfl (Nat.le_of_ble_eq_true rfl) rfl rfl (Zj ?_)
     exact jn (ZdH x61 x60 r102) h (sR [(6,1,6)])
    exact jn x61 h (sR [(6,1,6)])
   refine rg ?_
   refine lM csS x97 ?_
   refine cS h rfl (fun h=>?_) fun h=>?_
   ·refine rg ?_
    obtain ⟨e98,h80,h⟩:=bnd h
    refine Zw rfl h80 rfl rfl rfl (Zj ?_)
    refine ZM rfl h80 rfl rfl rfl (Zj ?_)
    refine aC h (Zgm _ _) fun r99 h=>?_
    obtain ⟨e100,h82,h⟩:=bnd h
    refine Zw rfl h82 rfl rfl rfl (Zj ?_)
    refine Zbb (e':=r99) rfl h82 rfl rfl rfl rfl rfl rfl (Nat.le_of_ble_eq_true rfl) rfl rfl (Zj ?_)
    exact jn (ZdH x97 x60 r99) h (sR [(6,1,6)])
   exact jn x97 h (sR [(6,1,6)])
  refine rg ?_
  exact rn (mf13,(w64 (x60+1)),x93) h (sR [(6,1,6)])
 refine rg ?_
 refine aL h (Zjy _ _) fun r104 h=>?_
 cases h
 exact rQ
def Zgn (p0:ByteArray):Option (Title×Int):=
 (Zb8 p0 (⟨#[95]⟩:ByteArray) (⟨#[32]⟩:ByteArray)).bind fun r1=>
 (Zfo r1).bind fun r2=>
 (ZX r2 (⟨#[58]⟩:ByteArray)).bind fun r3=>
 letk (fun (x6:ByteArray)=>
  (Zfp x6).bind fun r7=>
  letk (fun (x9:ByteArray) (x10:Int)=>
   (ZeQ x9).bind fun r11=>
   letk (fun (x14:Bool)=>
    letk (fun (x18:ByteArray)=>
     if (decide (100<(x18.size:Int))) then
      (some ((⟨0,(⟨#[]⟩:ByteArray)⟩:Title),3):Option (Title×Int))
     else
     (Zjc (⟨x10,x18⟩:Title)).bind fun r19=>
     if (!r19) then
      (some ((⟨0,(⟨#[]⟩:ByteArray)⟩:Title),1):Option (Title×Int))
     else
     (some ((⟨x10,x18⟩:Title),0):Option (Title×Int))) fun k4=>
    if x14 then
     (atS r11 0).bind fun c20=>
     (ZhC r11 1 (r11.size:Int)).bind fun l21=>
     (Zp3 (strOfNums [(IntKind.wrap .u8 (c20 - 32))]) l21).bind fun s22=>
     k4 s22
    else
    k4 r11) fun k3=>
   if (!decide (r11=(⟨#[]⟩:ByteArray))) then
    (atS r11 0).bind fun c23=>
    if (decide (97≤c23)) then
     (atS r11 0).bind fun c24=>
     k3 (decide (c24≤122))
    else
    k3 false
   else
   k3 false) fun k2=>
  if r7.2.2 then
   (Zbz r7.2.1 (⟨#[32]⟩:ByteArray)).bind fun r25=>
   k2 r25 r7.1
  else
  k2 x6 0) fun k1=>
 if r3 then
  (ZhC r2 1 (r2.size:Int)).bind fun l26=>
  (Zbz l26 (⟨#[32]⟩:ByteArray)).bind fun r27=>
  k1 r27
 else
 k1 r2
theorem ZkJ (p0:ByteArray) (r:Title×Int) (h:Zgn p0=some r):Zd Tryz.prog 264 [.str p0] (.tup [r.1.pv,.int .i64 r.2]):=by
 refine cF (fun r=>.tup [r.1.pv,.int .i64 r.2]) h mix Tryz.func264 fun r h=>?_
 unfold Zgn at h
 refine Zj ?_
 refine rg ?_
 refine rg ?_
 refine aC h (Zfa _ _ _) fun r1 h=>?_
 refine aC h (Zjx _) fun r2 h=>?_
 refine rg ?_
 refine aC h (ZZ _ _) fun r3 h=>?_
 refine jL h (fun x6=>mkS [(0,.str x6),(2,.ptr 2 (1,2) 0)] [(2,some ((1,2),.box [.int .i64 0,.str (⟨#[]⟩:ByteArray)]))] 2) (fun k1 h=>?_) fun x6 h=>?_
 ·refine cS h rfl (fun h=>?_) fun h=>?_
  ·refine rg ?_
   refine sS h fun l26 h=>?_
   refine aC h (Zde _ _) fun r27 h=>?_
   exact jn r27 h (sR [(2,1,0)])
  exact jn r2 h (sR [(2,1,0)])
 refine rg ?_
 refine rg ?_
 refine aC h (Zjz _) fun r7 h=>?_
 refine rg ?_
 refine Za6 h fun k2 hk2 h=>?_
 refine ZaV (α:=ByteArray×Int) (fun a _=>mkS [(0,.str a.1),(2,.ptr 2 (1,2) 0),(4,.ptr 4 (1,4) 0)] [(2,some ((1,2),.box [.int .i64 0,.str (⟨#[]⟩:ByteArray)])),(4,some ((1,4),.box [.int .i64 a.2,.str (⟨#[]⟩:ByteArray)]))] 2) (fun a=>k2 a.1 a.2=some r) (Zj ?_) (fun a _ h=>?_)
 ·refine cS h rfl (fun h=>?_) fun h=>?_
  ·refine rg ?_
   refine aC h (Zde _ _) fun r25 h=>?_
   exact jn (r25,r7.1) h (sR [(2,1,2),(4,2,1)])
  exact jn (x6,0) h (sR [(2,1,2),(4,2,1)])
 obtain ⟨x9,x10⟩:=a
 subst hk2
 dsimp only at h ⊢
 refine Zj ?_
 refine rg ?_
 refine aC h (Zja _) fun r11 h=>?_
 refine jL h (fun x14=>mkS [(0,.str r11),(2,.ptr 2 (1,2) 0),(4,.ptr 4 (1,4) 0),(41,.bool x14)] [(2,some ((1,2),.box [.int .i64 0,.str (⟨#[]⟩:ByteArray)])),(4,some ((1,4),.box [.int .i64 x10,.str (⟨#[]⟩:ByteArray)]))] 2) (fun k3 h=>?_) fun x14 h=>?_
 ·refine rg ?_
  refine kS 32 h rfl (fun h=>?_) fun h=>?_
  ·refine aS h fun c23 h=>?_
   refine kS 37 h rfl (fun h=>?_) fun h=>?_
   ·refine aS h fun c24 h=>?_
    exact jn (decide (c24≤122)) h (sR [(2,1,2),(4,1,4)])
   iterate 3 refine ZI rfl (Zj ?_)
   exact jn false h (sR [(2,1,2),(4,1,4)])
  iterate 6 refine ZI rfl (Zj ?_)
  exact jn false h (sR [(2,1,2),(4,1,4)])
 refine jL h (fun x18=>mkS [(0,.str x18),(2,.ptr 2 (1,2) 0),(4,.ptr 4 (1,4) 0)] [(2,some ((1,2),.box [.int .i64 0,.str (⟨#[]⟩:ByteArray)])),(4,some ((1,4),.box [.int .i64 x10,.str (⟨#[]⟩:ByteArray)]))] 2) (fun k4 h=>?_) fun x18 h=>?_
 ·refine cS h rfl (fun h=>?_) fun h=>?_
  ·refine rg ?_
   refine aS h fun c20 h=>?_
   refine bM csB ([(IntKind.wrap .u8 (c20 - 32))]:List Int) ?_
   refine Zm8 (l:=[(IntKind.wrap .u8 (c20 - 32))]) rfl rfl (Zj ?_)
   refine sS h fun l21 h=>?_
   refine sT h fun s22 h=>?_
   exact jn s22 h (sR [(2,1,2),(4,1,4)])
  exact jn r11 h (sR [(2,1,2),(4,1,4)])
 refine rg ?_
 refine rg ?_
 refine cS h rfl (fun h=>?_) fun h=>?_
 ·refine rg ?_
  cases h
  exact rQ
 refine rg ?_
 refine aC h (ZkK _) fun r19 h=>?_
 refine cS h rfl (fun h=>?_) fun h=>?_
 ·refine rg ?_
  cases h
  exact rQ
 refine rg ?_
 cases h
 exact rQ
structure Str3 where
 a:ByteArray
 b:ByteArray
 c:ByteArray
def Str3.cs (x:Str3):List PV:=[.str x.a,.str x.b,.str x.c]
def Str3.pv (x:Str3):PV:=.agg x.cs
end Go.Proofs.YtjblgpmagampbaaGreatDoor
