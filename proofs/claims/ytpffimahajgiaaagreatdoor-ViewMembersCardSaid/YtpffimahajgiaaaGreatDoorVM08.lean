/- The parser's closeTag. | The parser's closeBraces. | The parser's take: what a token does. | The parser's take, walked. | The parser's Parse. | tree.Plain: a list of nodes that is plain text. | Functions of the program as Lean functions. Written by fxgen.py. | A function that hands back a copy of a slice of plain cells. No program is named. | strings.Compare, as the others are written. | Functions of the program as Lean functions. Written by fxgen.py. | == and != of links. | A library function that turns a row of plain values and has a function behind it, as a contract; sorting. No program is named. | Comparisons that order totally. No program is named. -/
import Derived.Test.YtpffimahajgiaaaGreatDoorVM07
import Derived.Test.YtpffimahajgiaaaGreatDoorVM04
import Derived.Test.YtpffimahajgiaaaGreatDoorVM03
import Derived.Test.YtpffimahajgiaaaGreatDoorVM05
import Derived.Shelf.SlSortCmp.NoneTotal
import Derived.Lib.Bytealg
import Derived.Lib.Small
namespace Go.Proofs.YtpffimahajgiaaaGreatDoor
open VL
def ok1 (x:El):Prop:=(∀ q,x.args=some q->q.1.length<=1000000)/\x.cur.length<=9223372036854775807
def fits (e:El) (r:List El):Prop:=r.length<=999/\∀ x ∈ e::r,ok1 x
theorem Zao {e:El} {r:List El} (h:fits e r):fit e r:=⟨⟨by have:=h.1;omega,(h.2 e (List.mem_cons_self ..)).1⟩,(h.2 e (List.mem_cons_self ..)).2⟩
theorem ZaL {e e2:El} {r:List El} (h:fits e (e2::r)):fits e2 r:=⟨by have:=h.1;simp at this;omega,fun x hx=>h.2 x (List.mem_cons_of_mem _ hx)⟩
theorem ZbD {e e':El} {r:List El} (h:fits e r) (h':fit e' r):fits e' r:=⟨h.1,fun x hx=>by
 rcases List.mem_cons.1 hx with rfl | hx
 exact ⟨h'.1.2,h'.2⟩
 exact h.2 x (List.mem_cons_of_mem _ hx)⟩
theorem ZiB {r:List El}:∀ {l:List Arg} {e e':El},fit e r->ZeP e l=some e'->fit e' r
 | [],e,e',hf,h=>by injection h with h;rw [<- h];exact hf
 | a::l,e,e',hf,h=>by
   obtain ⟨e1,h1,h⟩:=Option.bind_eq_some_iff.1 h
   exact ZiB (ZjQ hf h1) h
theorem Zd1 {e e2 e3:El} {r:List El} (hf:fits e (e2::r)) (h:Zgq e e2=some e3):fits e3 r:=by{
refine ZbD (ZaL hf) ?_
obtain ⟨a,ha,h⟩:=Option.bind_eq_some_iff.1 h
obtain ⟨b,hb,h⟩:=Option.bind_eq_some_iff.1 h
split at h
exact ZiB (Zdh (Zix (Zao (ZaL hf)) ha) hb) h
cases h}
def ZfG:Nat->El->List El->Option (El×List El) | 0,e,r=>some (e,r) | _+1,_,[]=>none | n+1,e,e2::r=>(Zgq e e2).bind fun e3=>ZfG n e3 r
theorem Zkz {P:Program} [WInv P] {f:FuncId} {args args':List PV} {obs:List (Nat×VObj)} {res:PV} {obs':List (Nat×Gen×VObj)} (hl:args.length=args'.length) (h:∀ (x:Ctx) (i:Nat) (p p':PV) (v:Value),args[i]? = some p->args'[i]? = some p'->Rep x p v->Rep x p' v)
  (hc:ContractG P f args' obs res obs'):ContractG P f args obs res obs':=by
 refine ⟨hc.isGo,fun x vs hp hI=>hc.calls x vs ⟨hl.symm.trans hp.size,fun i p' v hp' hv=>?_,hp.ob,hp.gen,hp.flt⟩ hI⟩
 have hlt:i<args.length:=by rw [hl];exact (List.getElem?_eq_some_iff.1 hp').1
 exact h x i _ p' v (List.getElem?_eq_getElem hlt) hp' (hp.rep i _ v (List.getElem?_eq_getElem hlt) hv)
theorem Zwt {x:Ctx} {v:Value} (h:Rep x .nil v):Rep x (.sl []) v:=by
 cases h
 exact .sl [] none 0 0 0 0 0 (fun _ _=>undef) rfl (Nat.le_refl _) (by omega) (by simp) (by omega) (fun i j e p he=>by simp at he) (fun i j e p he=>by simp at he)
theorem Zvi {x:Ctx} {v:Value} {cs cs':List PV} (hl:cs.length=cs'.length) (h:∀ (j:Nat) (q q':PV),cs[j]? = some q->cs'[j]? = some q'->q=q'\/(q = .nil/\q' = .sl [])) (hr:Rep x (.agg cs) v):Rep x (.agg cs') v:=by{
cases hr with
| agg _ vs hl2 hh=>
  refine .agg cs' vs (hl.symm.trans hl2) fun i p' w hp' hw=>?_
  have hlt:i<cs.length:=by rw [hl];exact (List.getElem?_eq_some_iff.1 hp').1
  have hp:=List.getElem?_eq_getElem hlt
  rcases h i _ p' hp hp' with e | ⟨e1,e2⟩
  rw [<- e]
  exact hh i _ w hp hw
  rw [e2]
  have:=hh i _ w hp hw
  rw [e1] at this
  exact Zwt this}
theorem Zm8 {e e':El} {r:List El} {n:Node} {cs:List PV} (hl:cs.length=5) (h:∀ (j:Nat) (q q':PV),cs[j]? = some q->n.cs[j]? = some q'->q=q'\/(q = .nil/\q' = .sl [])) (hc:PC 133 [.agg n.cs] e r (.tup []) e' r):PC 133 [.agg cs] e r (.tup []) e' r:=
 Zkz (args':=[.ptr 0 (0,0) 0,.agg n.cs]) rfl (fun x i p p' v hp hp' hr=>by
  match i with
  | 0=>
    injection hp with hp
    injection hp' with hp'
    rw [<- hp',hp]
    exact hr
  | 1=>
    injection hp with hp
    injection hp' with hp'
    have hr':Rep x (.agg cs) v:=by rw [hp];exact hr
    rw [<- hp']
    exact Zvi (hl.trans rfl) h hr'
  | i+2=>simp at hp) hc
theorem Zvj (e e':El) (r:List El) (k t:Int) (s:ByteArray) (l:List (List PV)) (hs:small e r) (h:ZgA e ⟨k,t,s,l,[]⟩=some e'):PC 133 [.agg [.int .i64 k,.int .i64 t,.str s,.sl l,.nil]] e r (.tup []) e' r:=
 Zm8 (n:=⟨k,t,s,l,[]⟩) rfl (fun j q q' hq hq'=>by
  match j with
  | 0=>injection hq with hq;injection hq' with hq';exact .inl (hq.symm.trans hq')
  | 1=>injection hq with hq;injection hq' with hq';exact .inl (hq.symm.trans hq')
  | 2=>injection hq with hq;injection hq' with hq';exact .inl (hq.symm.trans hq')
  | 3=>injection hq with hq;injection hq' with hq';exact .inl (hq.symm.trans hq')
  | 4=>injection hq with hq;injection hq' with hq';exact .inr ⟨hq.symm,hq'.symm⟩
  | j+5=>simp at hq) (ZhC e r _ hs e' h)
theorem ZrF (e e':El) (r:List El) (k t:Int) (s:ByteArray) (hs:small e r) (h:ZgA e ⟨k,t,s,[],[]⟩=some e'):PC 133 [.agg [.int .i64 k,.int .i64 t,.str s,.nil,.nil]] e r (.tup []) e' r:=
 Zm8 (n:=⟨k,t,s,[],[]⟩) rfl (fun j q q' hq hq'=>by
  match j with
  | 0=>injection hq with hq;injection hq' with hq';exact .inl (hq.symm.trans hq')
  | 1=>injection hq with hq;injection hq' with hq';exact .inl (hq.symm.trans hq')
  | 2=>injection hq with hq;injection hq' with hq';exact .inl (hq.symm.trans hq')
  | 3=>injection hq with hq;injection hq' with hq';exact .inr ⟨hq.symm,hq'.symm⟩
  | 4=>injection hq with hq;injection hq' with hq';exact .inr ⟨hq.symm,hq'.symm⟩
  | j+5=>simp at hq) (ZhC e r _ hs e' h)
theorem Zie (k:Int):∀ (e:El) (r:List El),Zba k e r<=r.length
 | _,[]=>Nat.le_refl _
 | e,e2::r=>by
   unfold Zba
   split
   simp
   have:=Zie k e2 r
   simp
   omega
def ZeC (k:Int) (s:ByteArray) (e:El) (r:List El):Option (El×List El):=if Zba k e r=0 then (ZbF e s).map fun e'=>(e',r) else (ZfG (r.length-Zba k e r) e r).bind fun q=>match q.2 with | []=>none | e2::r2=>(ZgA e2 ⟨6,k,⟨#[]⟩,q.1.list,[]⟩).map fun e3=>(e3,r2)
set_option maxRecDepth 100000 in
set_option maxHeartbeats 1000000 in
theorem ZpF (k:Int) (s:ByteArray) (e e3:El) (r r3:List El) (hf:fits e r) (h:ZeC k s e r=some (e3,r3)):PC 139 [.int .i64 k,.str s] e r (.tup []) e3 r3:=by{
have hr:=hf.1
have hat:=Zie k e r
refine ZG mix Tryz.func139 (by kernel_rfl) rfl (by kernel_rfl) ?_
rw [Zcd]
repeat (first | (refine Zbf rfl rfl (Zb9 _ _ _) ?_) | (refine ZgE rfl rfl rfl (by omega) ?_) | (refine Zbv (α:=Unit) (c:=.block 0 _) (fun _ _=>mkS [(0,.ptr 0 (0,0) 0),(1,.int .i64 k),(2,.str s),(6,.int .i64 (Zba k e r:Int))] (somes (stP νa e r)) 2) (fun _=>True) ?_ (fun a _ _=>?_)) | refine Zq rfl (by (conv=>lhs;whnf);try rfl) ?_ | refine ZH rfl rfl rfl ?_ | refine Zl rfl rfl ?_ | refine Zr rfl (by (conv=>lhs;whnf);try rfl) ?_ | refine ZaK rfl rfl ?_ | refine Zd ?_ | refine Zk ?_ | refine Za ?_ | refine Zaq ?_)
refine Zv (fun (a:El×List El) _=>mkS [(0,.ptr 0 (0,0) 0),(1,.int .i64 k),(2,.str s),(6,.int .i64 (a.2.length:Int))] (somes (stP νa e r)) 2) (fun a=>(a.1::a.2) <:+ (e::r)/\Zba k a.1 a.2=Zba k e r) (fun a=>a.2.length) (e,r) 2 ⟨List.suffix_refl _,rfl⟩ (Zg8 ⟨rfl,rfl,rfl,rfl,trivial⟩) (fun a ng hJ=>?_)
obtain ⟨e1,r1⟩:=a
obtain ⟨hsuf,hlb⟩:=hJ
dsimp only at hsuf hlb ⊢
have hlt:r1.length<r.length+1:=by have:=hsuf.length_le;simp at this;omega
obtain ⟨b,c1,c2,hp,hm⟩:=Zuf (ν:=νa) (NT:=166) (AT:=170) (ET:=154) hsuf
have hb:=Zbg (lits:=[]) rfl _ _ _ hm
rcases r1 with _ | ⟨e2,r2⟩
·repeat (first | (refine ZE rfl ?_) | (refine Zj rfl rfl ?_) | refine Zq rfl (by (conv=>lhs;whnf);try rfl) ?_ | refine Zae rfl rfl rfl rfl (by (conv=>lhs;whnf);try rfl) ?_ | refine Za3 rfl rfl (by (conv=>lhs;whnf);try rfl) ?_ | refine Zd ?_ | refine Zk ?_ | refine Za ?_ | refine Za8 ?_ | refine ZD ?_ | refine Zde ?_ | refine ZgZ ?_)
 rw [<- hlb]
 exact ZdB () 2 trivial (Zg8 ⟨rfl,rfl,rfl,rfl,trivial⟩)
·have h0:decide ((0:Int)<(((e2::r2).length:Nat):Int))=true:=decide_eq_true (by simp)
 repeat (first | refine Zq rfl (by (conv=>lhs;whnf);try rfl) ?_ | refine Zae rfl rfl rfl rfl (by (conv=>lhs;whnf);try rfl) ?_ | refine Zk ?_ | refine Za ?_)
 rw [h0]
 repeat (first | (refine ZeN rfl rfl rfl rfl (by rw [Zb9];exact hlt) ?_) | (refine ZcP rfl rfl rfl hp rfl ?_) | (refine Zl4 rfl rfl hb rfl ?_) | refine Zq rfl (by (conv=>lhs;whnf);try rfl) ?_ | refine ZH rfl rfl rfl ?_ | refine Zl rfl rfl ?_ | refine Zae rfl rfl rfl rfl (by (conv=>lhs;whnf);try rfl) ?_ | refine ZaK rfl rfl ?_)
 by_cases h2:e1.kind=2
 ·rw [decide_eq_true h2]
  repeat (first | (refine ZeN rfl rfl rfl rfl (by rw [Zb9];exact hlt) ?_) | (refine ZcP rfl rfl rfl hp rfl ?_) | (refine Zl4 rfl rfl hb rfl ?_) | refine Zq rfl (by (conv=>lhs;whnf);try rfl) ?_ | refine ZH rfl rfl rfl ?_ | refine Zl rfl rfl ?_ | refine Zae rfl rfl rfl rfl (by (conv=>lhs;whnf);try rfl) ?_ | refine ZaK rfl rfl ?_ | refine Za3 rfl rfl (by (conv=>lhs;whnf);try rfl) ?_ | refine Zd ?_)
  by_cases h3:e1.tag=k
  ·rw [decide_eq_true h3]
   repeat (first | (refine Zj rfl rfl ?_) | refine Za8 ?_ | refine ZD ?_ | refine Zde ?_ | refine ZgZ ?_)
   rw [show Zba k e r=r2.length+1 by rw [<- hlb];simp only [Zba,if_pos (And.intro h2 h3)]]
   exact ZdB () 2 trivial (Zg8 ⟨rfl,rfl,rfl,rfl,trivial⟩)
  ·rw [decide_eq_false h3]
   repeat (first | (refine Zs rfl rfl ?_) | (refine ZgE (a:=r2.length) rfl rfl rfl (by simp at hlt;omega) ?_) | refine Zq rfl (by (conv=>lhs;whnf);try rfl) ?_ | refine Zr rfl (by (conv=>lhs;whnf);try rfl) ?_ | refine Zd ?_ | refine Za ?_ | refine Zaq ?_ | refine ZF ?_ | refine ZD ?_ | refine Zac ?_)
   refine Zak (e2,r2) 2 ⟨(List.suffix_cons _ _).trans hsuf,?_⟩ (by dsimp only;simp) (Zg8 ⟨rfl,rfl,rfl,rfl,trivial⟩)
   rw [<- hlb]
   simp only [Zba,if_neg (fun h:e1.kind=2/\e1.tag=k=>h3 h.2)]
 ·rw [decide_eq_false h2]
  repeat (first | (refine ZE rfl ?_) | (refine Zs rfl rfl ?_) | (refine ZgE (a:=r2.length) rfl rfl rfl (by simp at hlt;omega) ?_) | refine Zq rfl (by (conv=>lhs;whnf);try rfl) ?_ | refine Zr rfl (by (conv=>lhs;whnf);try rfl) ?_ | refine Za3 rfl rfl (by (conv=>lhs;whnf);try rfl) ?_ | refine Zd ?_ | refine Za ?_ | refine Zaq ?_ | refine ZF ?_ | refine ZD ?_ | refine Zac ?_)
  refine Zak (e2,r2) 2 ⟨(List.suffix_cons _ _).trans hsuf,?_⟩ (by dsimp only;simp) (Zg8 ⟨rfl,rfl,rfl,rfl,trivial⟩)
  rw [<- hlb]
  simp only [Zba,if_neg (fun h:e1.kind=2/\e1.tag=k=>h2 h.1)]
unfold ZeC at h
by_cases h0:Zba k e r=0
·rw [if_pos h0] at h
 obtain ⟨e',he',h⟩:=Option.map_eq_some_iff.1 h
 injection h with q1 q2
 subst q1 q2
 repeat (first | refine Zq rfl (by (conv=>lhs;whnf);try rfl) ?_ | refine Zae rfl rfl rfl rfl (by (conv=>lhs;whnf);try rfl) ?_ | refine Zd ?_ | refine Zk ?_ | refine Za ?_)
 rw [show decide (((Zba k e r:Nat):Int)=0)=true from decide_eq_true (by omega)]
 repeat (first | (refine Zs rfl rfl ?_) | (refine Zz [] νa (Zb4 e r s (Zao hf).1 (Zao hf).2 e' he') rfl rfl rfl rfl rfl rfl ?_) | refine Zq rfl (by (conv=>lhs;whnf);try rfl) ?_ | refine Zd ?_ | refine Zk ?_ | refine Za ?_ | refine Zbi ?_)
 exact ZbA (.inl rfl) (νc 3 2) [] [] rfl rfl trivial rfl rfl
·rw [if_neg h0] at h
 obtain ⟨⟨e4,r4⟩,hfl,h⟩:=Option.bind_eq_some_iff.1 h
 rcases r4 with _ | ⟨e5,r5⟩
 cases h
 obtain ⟨e6,he6,h⟩:=Option.map_eq_some_iff.1 h
 injection h with q1 q2
 subst q1 q2
 repeat (first | refine Zq rfl (by (conv=>lhs;whnf);try rfl) ?_ | refine Zae rfl rfl rfl rfl (by (conv=>lhs;whnf);try rfl) ?_ | refine Zd ?_ | refine Zk ?_ | refine Za ?_)
 rw [show decide (((Zba k e r:Nat):Int)=0)=false from decide_eq_false (by omega)]
 repeat (first | (refine Zj rfl rfl ?_) | refine Zk ?_ | refine Zaq ?_ | refine ZF ?_)
 generalize Zba k e r=at_ at hat h0 hfl ⊢
 refine Zv (fun (a:El×List El) _=>mkS [(0,.ptr 0 (0,0) 0),(1,.int .i64 k),(6,.int .i64 (at_:Int))] (somes (stP νb a.1 a.2)) 2) (fun a=>fits a.1 a.2/\at_<=a.2.length/\ZfG (a.2.length-at_) a.1 a.2=some (e4,e5::r5)) (fun a=>a.2.length) (e,r) 2 ⟨hf,hat,hfl⟩
  (Za4 νa [] (fun k=>(k,νa k)) (fun _ _=>rfl) rfl ⟨rfl,rfl,rfl,trivial⟩ (x:=[]) (x':=[]) rfl rfl rfl (Zab _) rfl) (fun a ng hJ=>?_)
 obtain ⟨e1,r1⟩:=a
 obtain ⟨hf1,hle,hft⟩:=hJ
 dsimp only at hf1 hle hft ⊢
 have hr1:=hf1.1
 repeat (first | (refine Zbf rfl rfl (Zb9 _ _ _) ?_) | refine Zq rfl (by (conv=>lhs;whnf);try rfl) ?_ | refine ZH rfl rfl rfl ?_ | refine Zl rfl rfl ?_ | refine Znv rfl rfl (by omega) ?_ | refine Zae rfl rfl rfl rfl (by (conv=>lhs;whnf);try rfl) ?_ | refine ZaK rfl rfl ?_ | refine Zd ?_ | refine Zk ?_ | refine Za ?_)
 by_cases hgt:at_<r1.length
 ·rw [show decide (((at_+1:Nat):Int)<((r1.length+1:Nat):Int))=true from decide_eq_true (by omega)]
  rcases r1 with _ | ⟨e2,r2⟩
  simp at hgt
  simp only [List.length_cons] at hgt hle hft hr1
  rw [show r2.length+1-at_=(r2.length-at_)+1 by omega] at hft
  obtain ⟨e7,he7,hft⟩:=Option.bind_eq_some_iff.1 hft
  repeat (first | (refine Zs rfl rfl ?_) | (refine Zz [] νb (ZjR e1 e2 e7 r2 (by omega) (Zao (ZaL hf1)) he7) rfl rfl rfl rfl rfl rfl ?_) | refine Zq rfl (by (conv=>lhs;whnf);try rfl) ?_ | refine Zd ?_ | refine Za ?_ | refine Zaq ?_ | refine ZF ?_ | refine ZD ?_ | refine Zac ?_)
  exact Zak (e7,r2) 2 ⟨Zd1 hf1 he7,by dsimp only;omega,hft⟩ (by dsimp only;simp) (Za4 (νc 3 1) [] (fun k=>(k,νc 3 1 k)) (fun _ _=>rfl) rfl ⟨rfl,rfl,rfl,trivial⟩ (x:=[]) (x':=[]) rfl rfl rfl (Zab _) rfl)
 ·rw [show decide (((at_+1:Nat):Int)<((r1.length+1:Nat):Int))=false from decide_eq_false (by omega)]
  rw [show r1.length-at_=0 by omega] at hft
  injection hft with hft
  injection hft with q1 q2
  subst q1 q2
  repeat (first | (refine Zj rfl rfl ?_) | refine Zq rfl (by (conv=>lhs;whnf);try rfl) ?_ | refine Zk ?_ | refine Za ?_ | refine Za8 ?_)
  refine Ze6 [] νb (ZpN e1 e5 r5 (by simp at hr1;omega)) rfl rfl rfl rfl ?_
  iterate 2 (refine ZhZ ?_)
  refine ZY (Zh0 (3,1+1000000 * (1000+1)) νb (tm':=[(0,.ptr 0 (0,0) 0),(1,.int .i64 k),(7,.ptr 300 (1,300) 0)]) ⟨rfl,rfl,rfl,trivial⟩) ?_ (List.cons_ne_nil _ _)
  repeat (first | (refine Zz [_] νb (Zvj e5 e6 r5 6 k ⟨#[]⟩ e1.list (Zao (ZaL hf1)).1 he6) rfl rfl rfl rfl rfl rfl ?_) | refine Zq rfl (by (conv=>lhs;whnf);try rfl) ?_ | refine ZH rfl rfl rfl ?_ | refine Zl rfl rfl ?_ | refine ZaK rfl rfl ?_ | refine Zby rfl rfl ?_ | refine Zd ?_ | refine Za ?_ | refine ZD ?_)
  exact ZbA (.inr rfl) (νc 2 7) [_] [] rfl rfl trivial rfl rfl}
def Zb2 (c count:Int):Int:=if 3<=c/\3<=count then 3 else 2
def ZfF (c:Int) (e:El):Node:=⟨if 3<=c/\3<=e.count then 5 else 4,0,⟨#[]⟩,e.list,e.argL.map Arg.cs⟩
def ZvB (c:Int) (e:El) (r:List El):Option (El×List El):=(strings_Repeat ⟨#[125]⟩ c).bind fun s=>(ZbF e s).map fun e'=>(e',r)
def Zwg (e2:El) (m:Int) (n:Node):Option El:=((if m=1 then ZbF e2 ⟨#[123]⟩ else some e2):Option El).bind fun e3=>ZgA e3 n
def ZaQ:Nat->Int->El->List El->Option (El×List El)
 | 0,_,_,_=>none
 | f+1,c,e,r=>if 2<=c then (if ZaD e r=0 then ZvB c e r else
   (ZfG (r.length-ZaD e r) e r).bind fun q=>if c<=9223372036854775807/\0<=q.1.count/\q.1.count<=9223372036854775807 then
    (if 2<=q.1.count-Zb2 c q.1.count then ZaQ f (c-Zb2 c q.1.count) ⟨q.1.kind,q.1.tag,q.1.count-Zb2 c q.1.count,[(ZfF c q.1).cs],none⟩ q.2
     else match q.2 with
      | []=>none
      | e2::r2=>(Zwg e2 (q.1.count-Zb2 c q.1.count) (ZfF c q.1)).bind fun e4=>ZaQ f (c-Zb2 c q.1.count) e4 r2) else none)
   else ZvB c e r
theorem ZiX {e2 e4:El} {m:Int} {n:Node} {r:List El} (hf:fit e2 r) (h:Zwg e2 m n=some e4):fit e4 r:=by{
obtain ⟨e3,h3,h⟩:=Option.bind_eq_some_iff.1 h
refine ZeX ?_ h
split at h3
exact Zap hf h3
injection h3 with h3
rw [<- h3]
exact hf}
theorem Zft:∀ {n:Nat} {e e':El} {r r':List El},fits e r->ZfG n e r=some (e',r')->fits e' r'
 | 0,e,e',r,r',hf,h=>by injection h with h;injection h with h1 h2;rw [<- h1,<- h2];exact hf
 | n+1,e,e',[],r',hf,h=>by cases h
 | n+1,e,e',e2::r,r',hf,h=>by
   obtain ⟨e3,h3,h⟩:=Option.bind_eq_some_iff.1 h
   exact Zft (Zd1 hf h3) h
theorem Zf1:∀ (e:El) (r:List El),ZaD e r<=r.length
 | _,[]=>Nat.le_refl _
 | e,e2::r=>by
   unfold ZaD
   split
   simp
   split
   simp
   have:=Zf1 e2 r
   simp
   omega
theorem ZjL (b:Nat) (ν:Nat->Gen) (pre:List Arg) (a:Arg):(ZgB b ν (some (pre,a))).set pre.length (Zas [.bool a.named,.sl a.name,.row (b+3) (ν (b+3))] 2 [.sl a.value])=(pre ++ [a]).map Arg.cs:=by
 have:=Zgt b ν pre a a.cs
 rw [List.map_append]
 exact this
set_option maxRecDepth 100000 in
set_option maxHeartbeats 2000000 in
theorem Zlz (f:Nat) (c:Int) (e e9:El) (r r9:List El) (hf:fits e r) (h:ZaQ f c e r=some (e9,r9)):PC 140 [.int .i64 c] e r (.tup []) e9 r9:=by{
refine ZG mix Tryz.func140 (by kernel_rfl) rfl (by kernel_rfl) ?_
rw [Zcd]
repeat (first | refine Zk ?_ | refine Zaq ?_)
refine Zv (fun (a:Nat×Int×El×List El) _=>mkS [(0,.ptr 0 (0,0) 0),(1,.int .i64 a.2.1)] (somes (stP νb a.2.2.1 a.2.2.2)) 2) (fun a=>fits a.2.2.1 a.2.2.2/\ZaQ a.1 a.2.1 a.2.2.1 a.2.2.2=some (e9,r9)) (fun a=>a.1) (f,c,e,r) 2 ⟨hf,h⟩
 (Za4 νa [] (fun k=>(k,νa k)) (fun _ _=>rfl) rfl ⟨rfl,rfl,trivial⟩ (x:=[]) (x':=[]) rfl rfl rfl (Zab _) rfl) (fun a ng hJ=>?_)
clear h hf
obtain ⟨f,c,e,r⟩:=a
obtain ⟨hf,h⟩:=hJ
dsimp only at hf h ⊢
rcases f with _ | f
cases h
have hr:=hf.1
unfold ZaQ at h
repeat (first | refine Zq rfl (by (conv=>lhs;whnf);try rfl) ?_ | refine Zae rfl rfl rfl rfl (by (conv=>lhs;whnf);try rfl) ?_ | refine Zd ?_ | refine Zk ?_ | refine Za ?_)
by_cases hc2:2<=c
rotate_left
·rw [if_neg hc2] at h
 obtain ⟨s,hs,h⟩:=Option.bind_eq_some_iff.1 h
 obtain ⟨e',he',h⟩:=Option.map_eq_some_iff.1 h
 injection h with q1 q2
 subst q1 q2
 rw [decide_eq_false hc2]
 repeat (first | (refine Zj rfl rfl ?_) | (refine ZfH (ZdM _ _ _ hs) rfl rfl ?_) | (refine Zz [] νb (Zb4 e r s (Zao hf).1 (Zao hf).2 e' he') rfl rfl rfl rfl rfl rfl ?_) | refine Zq rfl (by (conv=>lhs;whnf);try rfl) ?_ | refine Zd ?_ | refine Za ?_ | refine Za8 ?_ | refine ZD ?_)
 exact ZbA (.inr rfl) (νc 3 3) [] [] rfl rfl trivial rfl rfl
rw [if_pos hc2] at h
rw [decide_eq_true hc2]
have hat:=Zf1 e r
have hlb:=Zn5 e r (by omega)
generalize ZaD e r=at_ at hat h hlb
repeat (first | (refine Zs rfl rfl ?_) | (refine Zai [] νb hlb rfl rfl rfl rfl rfl rfl ?_) | refine Zq rfl (by (conv=>lhs;whnf);try rfl) ?_ | refine Zr rfl (by (conv=>lhs;whnf);try rfl) ?_ | refine Zae rfl rfl rfl rfl (by (conv=>lhs;whnf);try rfl) ?_ | refine Zd ?_ | refine Zk ?_ | refine Za ?_ | refine Zaq ?_ | refine ZF ?_)
by_cases h0:at_=0
·rw [if_pos h0] at h
 obtain ⟨s,hs,h⟩:=Option.bind_eq_some_iff.1 h
 obtain ⟨e',he',h⟩:=Option.map_eq_some_iff.1 h
 injection h with q1 q2
 subst q1 q2
 rw [show decide ((at_:Int)=0)=true from decide_eq_true (by omega)]
 repeat (first | (refine Zs rfl rfl ?_) | (refine ZfH (ZdM _ _ _ hs) rfl rfl ?_) | (refine Zz [] νb (Zb4 e r s (Zao hf).1 (Zao hf).2 e' he') rfl rfl rfl rfl rfl rfl ?_) | refine Zq rfl (by (conv=>lhs;whnf);try rfl) ?_ | refine Zd ?_ | refine Za ?_ | refine Za8 ?_ | refine ZD ?_)
 exact ZbA (.inr rfl) (νc 5 3) [] [] rfl rfl trivial rfl rfl
rw [if_neg h0] at h
obtain ⟨⟨e1,r1⟩,hfl,h⟩:=Option.bind_eq_some_iff.1 h
have hf1:=Zft hf hfl
rw [show decide ((at_:Int)=0)=false from decide_eq_false (by omega)]
repeat (first | (refine Zj rfl rfl ?_) | (refine Zbv (α:=Unit) (c:=.block 2 _) (fun _ _=>mkS [(0,.ptr 0 (0,0) 0),(1,.int .i64 c)] (somes (stP νb e1 r1)) 2) (fun _=>True) ?_ (fun a _ _=>?_)) | refine Zk ?_ | refine Zaq ?_ | refine ZF ?_)
·refine Zv (fun (a:El×List El) _=>mkS [(0,.ptr 0 (0,0) 0),(1,.int .i64 c),(4,.int .i64 (at_:Int))] (somes (stP νb a.1 a.2)) 2) (fun a=>fits a.1 a.2/\at_<=a.2.length/\ZfG (a.2.length-at_) a.1 a.2=some (e1,r1)) (fun a=>a.2.length) (e,r) 2 ⟨hf,hat,hfl⟩
  (Za4 νb [] (fun k=>(k,νb k)) (fun _ _=>rfl) rfl ⟨rfl,rfl,rfl,trivial⟩ (x:=[]) (x':=[]) rfl rfl rfl (Zab _) rfl) (fun a ng hJ=>?_)
 obtain ⟨e5,r5⟩:=a
 obtain ⟨hf5,hle,hft⟩:=hJ
 dsimp only at hf5 hle hft ⊢
 have hr5:=hf5.1
 repeat (first | (refine Zbf rfl rfl (Zb9 _ _ _) ?_) | refine Zq rfl (by (conv=>lhs;whnf);try rfl) ?_ | refine ZH rfl rfl rfl ?_ | refine Zl rfl rfl ?_ | refine Znv rfl rfl (by omega) ?_ | refine Zae rfl rfl rfl rfl (by (conv=>lhs;whnf);try rfl) ?_ | refine ZaK rfl rfl ?_ | refine Zd ?_ | refine Zk ?_ | refine Za ?_)
 by_cases hgt:at_<r5.length
 ·rw [show decide (((at_+1:Nat):Int)<((r5.length+1:Nat):Int))=true from decide_eq_true (by omega)]
  rcases r5 with _ | ⟨e2,r2⟩
  simp at hgt
  simp only [List.length_cons] at hgt hle hft hr5
  rw [show r2.length+1-at_=(r2.length-at_)+1 by omega] at hft
  obtain ⟨e7,he7,hft⟩:=Option.bind_eq_some_iff.1 hft
  repeat (first | (refine Zs rfl rfl ?_) | (refine Zz [] νb (ZjR e5 e2 e7 r2 (by omega) (Zao (ZaL hf5)) he7) rfl rfl rfl rfl rfl rfl ?_) | refine Zq rfl (by (conv=>lhs;whnf);try rfl) ?_ | refine Zd ?_ | refine Za ?_ | refine Zaq ?_ | refine ZF ?_ | refine ZD ?_ | refine Zac ?_)
  exact Zak (e7,r2) 2 ⟨Zd1 hf5 he7,by dsimp only;omega,hft⟩ (by dsimp only;simp) (Za4 (νc 3 1) [] (fun k=>(k,νc 3 1 k)) (fun _ _=>rfl) rfl ⟨rfl,rfl,rfl,trivial⟩ (x:=[]) (x':=[]) rfl rfl rfl (Zab _) rfl)
 ·rw [show decide (((at_+1:Nat):Int)<((r5.length+1:Nat):Int))=false from decide_eq_false (by omega)]
  rw [show r5.length-at_=0 by omega] at hft
  injection hft with hft
  injection hft with q1 q2
  subst q1 q2
  repeat (first | (refine Zj rfl rfl ?_) | refine Za8 ?_ | refine ZD ?_ | refine Zde ?_ | refine ZgZ ?_)
  exact ZdB () 2 trivial (Za4 νb [] (fun k=>(k,νb k)) (fun _ _=>rfl) rfl ⟨rfl,rfl,trivial⟩ (x:=[]) (x':=[]) rfl rfl rfl (Zab _) rfl)
·split at h
 rotate_left
 cases h
 rename_i hb
 obtain ⟨hb1,hb2,hb3⟩:=hb
 clear hfl hat hlb h0 hf hr
 obtain ⟨kind,tag,count,list,args⟩:=e1
 dsimp only at hb2 hb3 h
 have hr1:=hf1.1
 repeat (first | (refine Zai [] νb (ZdP _ r1 (by omega)) rfl rfl rfl rfl rfl rfl ?_) | refine Zq rfl (by (conv=>lhs;whnf);try rfl) ?_ | refine Zr rfl (by (conv=>lhs;whnf);try rfl) ?_ | refine Zae rfl rfl rfl rfl (by (conv=>lhs;whnf);try rfl) ?_ | refine Zd ?_ | refine Zk ?_ | refine Za ?_)
 by_cases hk1:3<=c
 by_cases hk2:3<=count
 ·have hK:Zb2 c count=3:=if_pos ⟨hk1,hk2⟩
  have hN:ZfF c ⟨kind,tag,count,list,args⟩=⟨5,0,⟨#[]⟩,list,(El.argL ⟨kind,tag,count,list,args⟩).map Arg.cs⟩:=by unfold ZfF;rw [if_pos ⟨hk1,hk2⟩]
  rw [hK,hN] at h
  rw [decide_eq_true hk1]
  repeat (first | refine Zq rfl (by (conv=>lhs;whnf);try rfl) ?_ | refine ZH rfl rfl rfl ?_ | refine Zl rfl rfl ?_ | refine Zae rfl rfl rfl rfl (by (conv=>lhs;whnf);try rfl) ?_ | refine ZaK rfl rfl ?_ | refine Za3 rfl rfl (by (conv=>lhs;whnf);try rfl) ?_ | refine Zd ?_)
  rw [decide_eq_true hk2]
  repeat (first | (refine Zs rfl rfl ?_) | (refine ZlC (a:=c) (b:=3) rfl rfl rfl (by omega) (by omega) ?_) | (refine ZlC (a:=count) (b:=3) rfl rfl rfl (by omega) (by omega) ?_) | refine Zq rfl (by (conv=>lhs;whnf);try rfl) ?_ | refine ZH rfl rfl rfl ?_ | refine Zl rfl rfl ?_ | refine Zr rfl (by (conv=>lhs;whnf);try rfl) ?_ | refine Zae rfl rfl rfl rfl (by (conv=>lhs;whnf);try rfl) ?_ | refine ZaK rfl rfl ?_ | refine Zdp rfl rfl ?_ | refine ZaN rfl rfl rfl (by (conv=>lhs;whnf);try rfl) (by (conv=>lhs;whnf);try rfl) (by rfl) (by rfl) (Nat.le_of_ble_eq_true rfl) (by (conv=>lhs;whnf);try rfl) ?_ | refine Zby rfl rfl ?_ | refine Zd ?_ | refine Zco (by kernel_rfl) ?_ | refine Zk ?_ | refine Za ?_)
  by_cases hm:2<=count-3
  rw [if_pos hm] at h
  rw [decide_eq_true hm]
  refine Zs rfl rfl ?_
  have hfn:fits ⟨kind,tag,count-3,[Node.cs ⟨5,0,⟨#[]⟩,list,(El.argL ⟨kind,tag,count,list,args⟩).map Arg.cs⟩],none⟩ r1:=ZbD hf1 ⟨⟨by omega,fun q hq=>by cases hq⟩,by show 1<=9223372036854775807;omega⟩
  rcases args with _ | ⟨pre,a⟩
  ·refine ZY (ZeK (b:=1001) (u:=8) (by omega) rfl rfl rfl (fun e he=>absurd he List.not_mem_nil)) ?_ (List.cons_ne_nil _ _)
   repeat (first | refine Zq rfl (by (conv=>lhs;whnf);try rfl) ?_ | refine ZH rfl rfl rfl ?_ | refine Zl rfl rfl ?_ | refine ZaK rfl rfl ?_ | refine ZaN rfl rfl rfl (by (conv=>lhs;whnf);try rfl) (by (conv=>lhs;whnf);try rfl) (by rfl) (by rfl) (Nat.le_of_ble_eq_true rfl) (by (conv=>lhs;whnf);try rfl) ?_ | refine Zam rfl rfl rfl (by rfl) (by decide) (by (conv=>lhs;whnf);try rfl) ?_ | refine Zd ?_ | refine Zk ?_ | refine Za ?_ | refine Za8 ?_ | refine ZD ?_ | refine Zde ?_)
   exact Zak (f,c-3,⟨kind,tag,count-3,[Node.cs ⟨5,0,⟨#[]⟩,list,[]⟩],none⟩,r1) 2 ⟨hfn,h⟩ (Nat.lt_succ_self _) (Shift.trans (Za0 1001 66 4 170 3 rfl rfl rfl) (Shift.trans (ZcC (t:=66) rfl) (ZcA (10,3) (11,0) 65 66 νb rfl ⟨rfl,rfl,trivial⟩ rfl rfl rfl rfl rfl rfl (Zdo (A:=[_,_,_,_,_,_,_,_,_,_,_,_,_]) rfl))))
  ·refine ZY (Zd0 1003 pre.length 2 rfl (Za2 _ _ _ _) rfl (ZdX rfl) (ZjL _ _ _ _)) ?_ (List.cons_ne_nil _ _)
   refine ZY (ZeK (b:=1001) (u:=8) (by omega) rfl rfl rfl ZfZ) ?_ (List.cons_ne_nil _ _)
   repeat (first | refine Zq rfl (by (conv=>lhs;whnf);try rfl) ?_ | refine ZH rfl rfl rfl ?_ | refine Zl rfl rfl ?_ | refine ZaK rfl rfl ?_ | refine ZaN rfl rfl rfl (by (conv=>lhs;whnf);try rfl) (by (conv=>lhs;whnf);try rfl) (by rfl) (by rfl) (Nat.le_of_ble_eq_true rfl) (by (conv=>lhs;whnf);try rfl) ?_ | refine Zam rfl rfl rfl (by rfl) (by decide) (by (conv=>lhs;whnf);try rfl) ?_ | refine Zd ?_ | refine Zk ?_ | refine Za ?_ | refine Za8 ?_ | refine ZD ?_ | refine Zde ?_)
   exact Zak (f,c-3,⟨kind,tag,count-3,[Node.cs ⟨5,0,⟨#[]⟩,list,(pre ++ [a]).map Arg.cs⟩],none⟩,r1) 2 ⟨hfn,h⟩ (Nat.lt_succ_self _) (Shift.trans (Za0 1001 66 4 170 3 rfl rfl rfl) (Shift.trans (ZcC (t:=66) rfl) (ZcA (10,3) (11,0) 65 66 νb rfl ⟨rfl,rfl,trivial⟩ rfl rfl rfl rfl rfl rfl (Zdo (A:=[_,_,_,_,_,_,_,_,_,_,_,_,_,_,_]) rfl))))
  ·rw [if_neg hm] at h
   rcases r1 with _ | ⟨e2,r2⟩
   cases h
   obtain ⟨e4,he4,h⟩:=Option.bind_eq_some_iff.1 h
   have hf2:=Zao (ZaL hf1)
   have hf4:=ZbD (ZaL hf1) (ZiX hf2 he4)
   rw [decide_eq_false hm]
   refine Zj rfl rfl ?_
   refine ZY (Shift.trans (ZgN (lits:=[_,_]) (m:=count-3) rfl) (Za4 νb [_,_] (fun k=>if k=8 then (8,(6,10)) else (k,νb k)) (fun k hk=>if_neg (by omega)) rfl (tm':=[(0,.ptr 0 (0,0) 0),(1,.int .i64 (c-3)),(5,.ptr 1001 (1,1001) 0),(8,.ptr 8 (1,8) 0)]) ⟨rfl,rfl,rfl,rfl,trivial⟩ (x:=[(8,(6,10),.box [.int .i64 5,.int .i64 0,.str ⟨#[]⟩,.row 1002 (νb 1002),.row 1003 (νb 1003)])]) (x':=[(8,νb 8,.box [.int .i64 5,.int .i64 0,.str ⟨#[]⟩,.row 1002 (νb 1002),.row 1003 (νb 1003)])]) rfl rfl rfl (Zo rfl (Zab _)) rfl)) ?_ (List.cons_ne_nil _ _)
   repeat (first | refine Zq rfl (by (conv=>lhs;whnf);try rfl) ?_ | refine Zk ?_ | refine Za ?_ | refine ZF ?_)
   refine Ze6 [_] νb (ZpN ⟨kind,tag,count-3,list,args⟩ e2 r2 (by simp at hr1;omega)) rfl rfl rfl rfl ?_
   refine ZhZ ?_
   refine ZY (ZhS (2,1+1000000 * (1000+1)) (1,8) νb (tm':=[(0,.ptr 0 (0,0) 0),(1,.int .i64 (c-3)),(5,.ptr 300 (1,300) 0),(8,.ptr 8 (1,8) 0)]) ⟨rfl,rfl,rfl,rfl,trivial⟩) ?_ (List.cons_ne_nil _ _)
   repeat (first | refine Zq rfl (by (conv=>lhs;whnf);try rfl) ?_ | refine ZH rfl rfl rfl ?_ | refine Zl rfl rfl ?_ | refine Zae rfl rfl rfl rfl (by (conv=>lhs;whnf);try rfl) ?_ | refine ZaK rfl rfl ?_ | refine Zd ?_ | refine Zk ?_ | refine Za ?_)
   obtain ⟨e3,h3,he4⟩:=Option.bind_eq_some_iff.1 he4
   by_cases h1:count-3=1
   ·rw [if_pos h1] at h3
    rw [decide_eq_true h1]
    have hf3:=Zap hf2 h3
    repeat (first | (refine Zs rfl rfl ?_) | (refine Zz [_,_] νb (Zb4 e2 r2 _ hf2.1 hf2.2 e3 h3) rfl rfl rfl rfl rfl rfl ?_) | (refine Zz [_,_] (νc _ _) (ZhC e3 r2 _ hf3.1 e4 he4) rfl rfl rfl rfl rfl rfl ?_) | refine Zq rfl (by (conv=>lhs;whnf);try rfl) ?_ | refine ZH rfl rfl rfl ?_ | refine Zd ?_ | refine Za ?_ | refine ZD ?_ | refine Zac ?_)
    exact Zak (f,c-3,e4,r2) 2 ⟨hf4,h⟩ (Nat.lt_succ_self _) (Za4 (νc 4 2) [_,_] (fun k=>(k,νc 4 2 k)) (fun _ _=>rfl) rfl ⟨rfl,rfl,trivial⟩ (x:=[]) (x':=[]) rfl rfl rfl (Zab _) rfl)
   ·rw [if_neg h1] at h3
    injection h3 with h3
    subst h3
    rw [decide_eq_false h1]
    repeat (first | (refine Zj rfl rfl ?_) | (refine Zz [_,_] νb (ZhC e2 r2 _ hf2.1 e4 he4) rfl rfl rfl rfl rfl rfl ?_) | refine Zq rfl (by (conv=>lhs;whnf);try rfl) ?_ | refine ZH rfl rfl rfl ?_ | refine Zd ?_ | refine Za ?_ | refine ZF ?_ | refine ZD ?_ | refine Zac ?_)
    exact Zak (f,c-3,e4,r2) 2 ⟨hf4,h⟩ (Nat.lt_succ_self _) (Za4 (νc 3 2) [_,_] (fun k=>(k,νc 3 2 k)) (fun _ _=>rfl) rfl ⟨rfl,rfl,trivial⟩ (x:=[]) (x':=[]) rfl rfl rfl (Zab _) rfl)
 ·have hK:Zb2 c count=2:=if_neg (fun h=>hk2 h.2)
  have hN:ZfF c ⟨kind,tag,count,list,args⟩=⟨4,0,⟨#[]⟩,list,(El.argL ⟨kind,tag,count,list,args⟩).map Arg.cs⟩:=by unfold ZfF;rw [if_neg (fun h=>hk2 h.2)]
  rw [hK,hN] at h
  rw [decide_eq_true hk1]
  repeat (first | refine Zq rfl (by (conv=>lhs;whnf);try rfl) ?_ | refine ZH rfl rfl rfl ?_ | refine Zl rfl rfl ?_ | refine Zae rfl rfl rfl rfl (by (conv=>lhs;whnf);try rfl) ?_ | refine ZaK rfl rfl ?_ | refine Za3 rfl rfl (by (conv=>lhs;whnf);try rfl) ?_ | refine Zd ?_)
  rw [decide_eq_false hk2]
  repeat (first | (refine Zj rfl rfl ?_) | (refine ZlC (a:=c) (b:=2) rfl rfl rfl (by omega) (by omega) ?_) | (refine ZlC (a:=count) (b:=2) rfl rfl rfl (by omega) (by omega) ?_) | refine Zq rfl (by (conv=>lhs;whnf);try rfl) ?_ | refine ZH rfl rfl rfl ?_ | refine Zl rfl rfl ?_ | refine Zr rfl (by (conv=>lhs;whnf);try rfl) ?_ | refine Zae rfl rfl rfl rfl (by (conv=>lhs;whnf);try rfl) ?_ | refine ZaK rfl rfl ?_ | refine Zdp rfl rfl ?_ | refine ZaN rfl rfl rfl (by (conv=>lhs;whnf);try rfl) (by (conv=>lhs;whnf);try rfl) (by rfl) (by rfl) (Nat.le_of_ble_eq_true rfl) (by (conv=>lhs;whnf);try rfl) ?_ | refine Zby rfl rfl ?_ | refine Zd ?_ | refine Zco (by kernel_rfl) ?_ | refine Zk ?_ | refine Za ?_ | refine ZF ?_)
  by_cases hm:2<=count-2
  rw [if_pos hm] at h
  rw [decide_eq_true hm]
  refine Zs rfl rfl ?_
  have hfn:fits ⟨kind,tag,count-2,[Node.cs ⟨4,0,⟨#[]⟩,list,(El.argL ⟨kind,tag,count,list,args⟩).map Arg.cs⟩],none⟩ r1:=ZbD hf1 ⟨⟨by omega,fun q hq=>by cases hq⟩,by show 1<=9223372036854775807;omega⟩
  rcases args with _ | ⟨pre,a⟩
  ·refine ZY (ZeK (b:=1001) (u:=8) (by omega) rfl rfl rfl (fun e he=>absurd he List.not_mem_nil)) ?_ (List.cons_ne_nil _ _)
   repeat (first | refine Zq rfl (by (conv=>lhs;whnf);try rfl) ?_ | refine ZH rfl rfl rfl ?_ | refine Zl rfl rfl ?_ | refine ZaK rfl rfl ?_ | refine ZaN rfl rfl rfl (by (conv=>lhs;whnf);try rfl) (by (conv=>lhs;whnf);try rfl) (by rfl) (by rfl) (Nat.le_of_ble_eq_true rfl) (by (conv=>lhs;whnf);try rfl) ?_ | refine Zam rfl rfl rfl (by rfl) (by decide) (by (conv=>lhs;whnf);try rfl) ?_ | refine Zd ?_ | refine Zk ?_ | refine Za ?_ | refine Za8 ?_ | refine ZD ?_ | refine Zde ?_)
   exact Zak (f,c-2,⟨kind,tag,count-2,[Node.cs ⟨4,0,⟨#[]⟩,list,[]⟩],none⟩,r1) 2 ⟨hfn,h⟩ (Nat.lt_succ_self _) (Shift.trans (Za0 1001 66 4 170 3 rfl rfl rfl) (Shift.trans (ZcC (t:=66) rfl) (ZcA (9,3) (10,0) 65 66 νb rfl ⟨rfl,rfl,trivial⟩ rfl rfl rfl rfl rfl rfl (Zdo (A:=[_,_,_,_,_,_,_,_,_,_,_,_,_]) rfl))))
  ·refine ZY (Zd0 1003 pre.length 2 rfl (Za2 _ _ _ _) rfl (ZdX rfl) (ZjL _ _ _ _)) ?_ (List.cons_ne_nil _ _)
   refine ZY (ZeK (b:=1001) (u:=8) (by omega) rfl rfl rfl ZfZ) ?_ (List.cons_ne_nil _ _)
   repeat (first | refine Zq rfl (by (conv=>lhs;whnf);try rfl) ?_ | refine ZH rfl rfl rfl ?_ | refine Zl rfl rfl ?_ | refine ZaK rfl rfl ?_ | refine ZaN rfl rfl rfl (by (conv=>lhs;whnf);try rfl) (by (conv=>lhs;whnf);try rfl) (by rfl) (by rfl) (Nat.le_of_ble_eq_true rfl) (by (conv=>lhs;whnf);try rfl) ?_ | refine Zam rfl rfl rfl (by rfl) (by decide) (by (conv=>lhs;whnf);try rfl) ?_ | refine Zd ?_ | refine Zk ?_ | refine Za ?_ | refine Za8 ?_ | refine ZD ?_ | refine Zde ?_)
   exact Zak (f,c-2,⟨kind,tag,count-2,[Node.cs ⟨4,0,⟨#[]⟩,list,(pre ++ [a]).map Arg.cs⟩],none⟩,r1) 2 ⟨hfn,h⟩ (Nat.lt_succ_self _) (Shift.trans (Za0 1001 66 4 170 3 rfl rfl rfl) (Shift.trans (ZcC (t:=66) rfl) (ZcA (9,3) (10,0) 65 66 νb rfl ⟨rfl,rfl,trivial⟩ rfl rfl rfl rfl rfl rfl (Zdo (A:=[_,_,_,_,_,_,_,_,_,_,_,_,_,_,_]) rfl))))
  ·rw [if_neg hm] at h
   rcases r1 with _ | ⟨e2,r2⟩
   cases h
   obtain ⟨e4,he4,h⟩:=Option.bind_eq_some_iff.1 h
   have hf2:=Zao (ZaL hf1)
   have hf4:=ZbD (ZaL hf1) (ZiX hf2 he4)
   rw [decide_eq_false hm]
   refine Zj rfl rfl ?_
   refine ZY (Shift.trans (ZgN (lits:=[_,_]) (m:=count-2) rfl) (Za4 νb [_,_] (fun k=>if k=8 then (8,(5,10)) else (k,νb k)) (fun k hk=>if_neg (by omega)) rfl (tm':=[(0,.ptr 0 (0,0) 0),(1,.int .i64 (c-2)),(5,.ptr 1001 (1,1001) 0),(8,.ptr 8 (1,8) 0)]) ⟨rfl,rfl,rfl,rfl,trivial⟩ (x:=[(8,(5,10),.box [.int .i64 4,.int .i64 0,.str ⟨#[]⟩,.row 1002 (νb 1002),.row 1003 (νb 1003)])]) (x':=[(8,νb 8,.box [.int .i64 4,.int .i64 0,.str ⟨#[]⟩,.row 1002 (νb 1002),.row 1003 (νb 1003)])]) rfl rfl rfl (Zo rfl (Zab _)) rfl)) ?_ (List.cons_ne_nil _ _)
   repeat (first | refine Zq rfl (by (conv=>lhs;whnf);try rfl) ?_ | refine Zk ?_ | refine Za ?_ | refine ZF ?_)
   refine Ze6 [_] νb (ZpN ⟨kind,tag,count-2,list,args⟩ e2 r2 (by simp at hr1;omega)) rfl rfl rfl rfl ?_
   refine ZhZ ?_
   refine ZY (ZhS (2,1+1000000 * (1000+1)) (1,8) νb (tm':=[(0,.ptr 0 (0,0) 0),(1,.int .i64 (c-2)),(5,.ptr 300 (1,300) 0),(8,.ptr 8 (1,8) 0)]) ⟨rfl,rfl,rfl,rfl,trivial⟩) ?_ (List.cons_ne_nil _ _)
   repeat (first | refine Zq rfl (by (conv=>lhs;whnf);try rfl) ?_ | refine ZH rfl rfl rfl ?_ | refine Zl rfl rfl ?_ | refine Zae rfl rfl rfl rfl (by (conv=>lhs;whnf);try rfl) ?_ | refine ZaK rfl rfl ?_ | refine Zd ?_ | refine Zk ?_ | refine Za ?_)
   obtain ⟨e3,h3,he4⟩:=Option.bind_eq_some_iff.1 he4
   by_cases h1:count-2=1
   ·rw [if_pos h1] at h3
    rw [decide_eq_true h1]
    have hf3:=Zap hf2 h3
    repeat (first | (refine Zs rfl rfl ?_) | (refine Zz [_,_] νb (Zb4 e2 r2 _ hf2.1 hf2.2 e3 h3) rfl rfl rfl rfl rfl rfl ?_) | (refine Zz [_,_] (νc _ _) (ZhC e3 r2 _ hf3.1 e4 he4) rfl rfl rfl rfl rfl rfl ?_) | refine Zq rfl (by (conv=>lhs;whnf);try rfl) ?_ | refine ZH rfl rfl rfl ?_ | refine Zd ?_ | refine Za ?_ | refine ZD ?_ | refine Zac ?_)
    exact Zak (f,c-2,e4,r2) 2 ⟨hf4,h⟩ (Nat.lt_succ_self _) (Za4 (νc 4 2) [_,_] (fun k=>(k,νc 4 2 k)) (fun _ _=>rfl) rfl ⟨rfl,rfl,trivial⟩ (x:=[]) (x':=[]) rfl rfl rfl (Zab _) rfl)
   ·rw [if_neg h1] at h3
    injection h3 with h3
    subst h3
    rw [decide_eq_false h1]
    repeat (first | (refine Zj rfl rfl ?_) | (refine Zz [_,_] νb (ZhC e2 r2 _ hf2.1 e4 he4) rfl rfl rfl rfl rfl rfl ?_) | refine Zq rfl (by (conv=>lhs;whnf);try rfl) ?_ | refine ZH rfl rfl rfl ?_ | refine Zd ?_ | refine Za ?_ | refine ZF ?_ | refine ZD ?_ | refine Zac ?_)
    exact Zak (f,c-2,e4,r2) 2 ⟨hf4,h⟩ (Nat.lt_succ_self _) (Za4 (νc 3 2) [_,_] (fun k=>(k,νc 3 2 k)) (fun _ _=>rfl) rfl ⟨rfl,rfl,trivial⟩ (x:=[]) (x':=[]) rfl rfl rfl (Zab _) rfl)
 ·have hK:Zb2 c count=2:=if_neg (fun h=>hk1 h.1)
  have hN:ZfF c ⟨kind,tag,count,list,args⟩=⟨4,0,⟨#[]⟩,list,(El.argL ⟨kind,tag,count,list,args⟩).map Arg.cs⟩:=by unfold ZfF;rw [if_neg (fun h=>hk1 h.1)]
  rw [hK,hN] at h
  rw [decide_eq_false hk1]
  repeat (first | (refine ZE rfl ?_) | (refine Zj rfl rfl ?_) | (refine ZlC (a:=c) (b:=2) rfl rfl rfl (by omega) (by omega) ?_) | (refine ZlC (a:=count) (b:=2) rfl rfl rfl (by omega) (by omega) ?_) | refine Zq rfl (by (conv=>lhs;whnf);try rfl) ?_ | refine ZH rfl rfl rfl ?_ | refine Zl rfl rfl ?_ | refine Zr rfl (by (conv=>lhs;whnf);try rfl) ?_ | refine Zae rfl rfl rfl rfl (by (conv=>lhs;whnf);try rfl) ?_ | refine ZaK rfl rfl ?_ | refine Zdp rfl rfl ?_ | refine ZaN rfl rfl rfl (by (conv=>lhs;whnf);try rfl) (by (conv=>lhs;whnf);try rfl) (by rfl) (by rfl) (Nat.le_of_ble_eq_true rfl) (by (conv=>lhs;whnf);try rfl) ?_ | refine Zby rfl rfl ?_ | refine Za3 rfl rfl (by (conv=>lhs;whnf);try rfl) ?_ | refine Zd ?_ | refine Zco (by kernel_rfl) ?_ | refine Zk ?_ | refine Za ?_ | refine ZF ?_)
  by_cases hm:2<=count-2
  rw [if_pos hm] at h
  rw [decide_eq_true hm]
  refine Zs rfl rfl ?_
  have hfn:fits ⟨kind,tag,count-2,[Node.cs ⟨4,0,⟨#[]⟩,list,(El.argL ⟨kind,tag,count,list,args⟩).map Arg.cs⟩],none⟩ r1:=ZbD hf1 ⟨⟨by omega,fun q hq=>by cases hq⟩,by show 1<=9223372036854775807;omega⟩
  rcases args with _ | ⟨pre,a⟩
  ·refine ZY (ZeK (b:=1001) (u:=8) (by omega) rfl rfl rfl (fun e he=>absurd he List.not_mem_nil)) ?_ (List.cons_ne_nil _ _)
   repeat (first | refine Zq rfl (by (conv=>lhs;whnf);try rfl) ?_ | refine ZH rfl rfl rfl ?_ | refine Zl rfl rfl ?_ | refine ZaK rfl rfl ?_ | refine ZaN rfl rfl rfl (by (conv=>lhs;whnf);try rfl) (by (conv=>lhs;whnf);try rfl) (by rfl) (by rfl) (Nat.le_of_ble_eq_true rfl) (by (conv=>lhs;whnf);try rfl) ?_ | refine Zam rfl rfl rfl (by rfl) (by decide) (by (conv=>lhs;whnf);try rfl) ?_ | refine Zd ?_ | refine Zk ?_ | refine Za ?_ | refine Za8 ?_ | refine ZD ?_ | refine Zde ?_)
   exact Zak (f,c-2,⟨kind,tag,count-2,[Node.cs ⟨4,0,⟨#[]⟩,list,[]⟩],none⟩,r1) 2 ⟨hfn,h⟩ (Nat.lt_succ_self _) (Shift.trans (Za0 1001 66 4 170 3 rfl rfl rfl) (Shift.trans (ZcC (t:=66) rfl) (ZcA (9,3) (10,0) 65 66 νb rfl ⟨rfl,rfl,trivial⟩ rfl rfl rfl rfl rfl rfl (Zdo (A:=[_,_,_,_,_,_,_,_,_,_,_,_,_]) rfl))))
  ·refine ZY (Zd0 1003 pre.length 2 rfl (Za2 _ _ _ _) rfl (ZdX rfl) (ZjL _ _ _ _)) ?_ (List.cons_ne_nil _ _)
   refine ZY (ZeK (b:=1001) (u:=8) (by omega) rfl rfl rfl ZfZ) ?_ (List.cons_ne_nil _ _)
   repeat (first | refine Zq rfl (by (conv=>lhs;whnf);try rfl) ?_ | refine ZH rfl rfl rfl ?_ | refine Zl rfl rfl ?_ | refine ZaK rfl rfl ?_ | refine ZaN rfl rfl rfl (by (conv=>lhs;whnf);try rfl) (by (conv=>lhs;whnf);try rfl) (by rfl) (by rfl) (Nat.le_of_ble_eq_true rfl) (by (conv=>lhs;whnf);try rfl) ?_ | refine Zam rfl rfl rfl (by rfl) (by decide) (by (conv=>lhs;whnf);try rfl) ?_ | refine Zd ?_ | refine Zk ?_ | refine Za ?_ | refine Za8 ?_ | refine ZD ?_ | refine Zde ?_)
   exact Zak (f,c-2,⟨kind,tag,count-2,[Node.cs ⟨4,0,⟨#[]⟩,list,(pre ++ [a]).map Arg.cs⟩],none⟩,r1) 2 ⟨hfn,h⟩ (Nat.lt_succ_self _) (Shift.trans (Za0 1001 66 4 170 3 rfl rfl rfl) (Shift.trans (ZcC (t:=66) rfl) (ZcA (9,3) (10,0) 65 66 νb rfl ⟨rfl,rfl,trivial⟩ rfl rfl rfl rfl rfl rfl (Zdo (A:=[_,_,_,_,_,_,_,_,_,_,_,_,_,_,_]) rfl))))
  ·rw [if_neg hm] at h
   rcases r1 with _ | ⟨e2,r2⟩
   cases h
   obtain ⟨e4,he4,h⟩:=Option.bind_eq_some_iff.1 h
   have hf2:=Zao (ZaL hf1)
   have hf4:=ZbD (ZaL hf1) (ZiX hf2 he4)
   rw [decide_eq_false hm]
   refine Zj rfl rfl ?_
   refine ZY (Shift.trans (ZgN (lits:=[_,_]) (m:=count-2) rfl) (Za4 νb [_,_] (fun k=>if k=8 then (8,(5,10)) else (k,νb k)) (fun k hk=>if_neg (by omega)) rfl (tm':=[(0,.ptr 0 (0,0) 0),(1,.int .i64 (c-2)),(5,.ptr 1001 (1,1001) 0),(8,.ptr 8 (1,8) 0)]) ⟨rfl,rfl,rfl,rfl,trivial⟩ (x:=[(8,(5,10),.box [.int .i64 4,.int .i64 0,.str ⟨#[]⟩,.row 1002 (νb 1002),.row 1003 (νb 1003)])]) (x':=[(8,νb 8,.box [.int .i64 4,.int .i64 0,.str ⟨#[]⟩,.row 1002 (νb 1002),.row 1003 (νb 1003)])]) rfl rfl rfl (Zo rfl (Zab _)) rfl)) ?_ (List.cons_ne_nil _ _)
   repeat (first | refine Zq rfl (by (conv=>lhs;whnf);try rfl) ?_ | refine Zk ?_ | refine Za ?_ | refine ZF ?_)
   refine Ze6 [_] νb (ZpN ⟨kind,tag,count-2,list,args⟩ e2 r2 (by simp at hr1;omega)) rfl rfl rfl rfl ?_
   refine ZhZ ?_
   refine ZY (ZhS (2,1+1000000 * (1000+1)) (1,8) νb (tm':=[(0,.ptr 0 (0,0) 0),(1,.int .i64 (c-2)),(5,.ptr 300 (1,300) 0),(8,.ptr 8 (1,8) 0)]) ⟨rfl,rfl,rfl,rfl,trivial⟩) ?_ (List.cons_ne_nil _ _)
   repeat (first | refine Zq rfl (by (conv=>lhs;whnf);try rfl) ?_ | refine ZH rfl rfl rfl ?_ | refine Zl rfl rfl ?_ | refine Zae rfl rfl rfl rfl (by (conv=>lhs;whnf);try rfl) ?_ | refine ZaK rfl rfl ?_ | refine Zd ?_ | refine Zk ?_ | refine Za ?_)
   obtain ⟨e3,h3,he4⟩:=Option.bind_eq_some_iff.1 he4
   by_cases h1:count-2=1
   ·rw [if_pos h1] at h3
    rw [decide_eq_true h1]
    have hf3:=Zap hf2 h3
    repeat (first | (refine Zs rfl rfl ?_) | (refine Zz [_,_] νb (Zb4 e2 r2 _ hf2.1 hf2.2 e3 h3) rfl rfl rfl rfl rfl rfl ?_) | (refine Zz [_,_] (νc _ _) (ZhC e3 r2 _ hf3.1 e4 he4) rfl rfl rfl rfl rfl rfl ?_) | refine Zq rfl (by (conv=>lhs;whnf);try rfl) ?_ | refine ZH rfl rfl rfl ?_ | refine Zd ?_ | refine Za ?_ | refine ZD ?_ | refine Zac ?_)
    exact Zak (f,c-2,e4,r2) 2 ⟨hf4,h⟩ (Nat.lt_succ_self _) (Za4 (νc 4 2) [_,_] (fun k=>(k,νc 4 2 k)) (fun _ _=>rfl) rfl ⟨rfl,rfl,trivial⟩ (x:=[]) (x':=[]) rfl rfl rfl (Zab _) rfl)
   ·rw [if_neg h1] at h3
    injection h3 with h3
    subst h3
    rw [decide_eq_false h1]
    repeat (first | (refine Zj rfl rfl ?_) | (refine Zz [_,_] νb (ZhC e2 r2 _ hf2.1 e4 he4) rfl rfl rfl rfl rfl rfl ?_) | refine Zq rfl (by (conv=>lhs;whnf);try rfl) ?_ | refine ZH rfl rfl rfl ?_ | refine Zd ?_ | refine Za ?_ | refine ZF ?_ | refine ZD ?_ | refine Zac ?_)
    exact Zak (f,c-2,e4,r2) 2 ⟨hf4,h⟩ (Nat.lt_succ_self _) (Za4 (νc 3 2) [_,_] (fun k=>(k,νc 3 2 k)) (fun _ _=>rfl) rfl ⟨rfl,rfl,trivial⟩ (x:=[]) (x':=[]) rfl rfl rfl (Zab _) rfl)}
def Zlj (k t c:Int) (x:ByteArray) (e:El) (r:List El):Option (El×List El):=if 20<=r.length then (ZbF e x).map fun e'=>(e',r) else some (⟨k,t,c,[],none⟩,e::r)
def ZuK (e:El):Option El:=if e.kind=3 then match e.args with | none=>some ⟨e.kind,e.tag,e.count,e.list,some ([],⟨false,[],[]⟩)⟩ | some (pre,a)=>if pre.length+1<=1000000 then some ⟨e.kind,e.tag,e.count,e.list,some (pre ++ [a],⟨false,[],[]⟩)⟩ else none else ZbF e ⟨#[124]⟩
def Zo7 (s:ByteArray) (t:Tok) (e:El) (r:List El):Option (El×List El):=(Zck s t).bind fun x=>if t.kind=1\/t.kind=2 then (ZbF e x).map fun e'=>(e',r) else if t.kind=9 then (ZgA e ⟨2,0,x,[],[]⟩).map fun e'=>(e',r) else if t.kind=10 then (ZfI x 8 (w64 ((x.size:Int)-9))).bind fun y=>(ZgA e ⟨3,0,y,[],[]⟩).map fun e'=>(e',r) else if t.kind=3 then Zlj 3 0 x.size x e r else if t.kind=5 then Zlj 1 0 0 x e r else if t.kind=11 then (ZdD s t).bind fun k=>Zlj 2 k 0 x e r else if t.kind=7 then (ZuK e).map fun e'=>(e',r) else if t.kind=8 then (ZjS e).map fun e'=>(e',r) else if t.kind=6 then Zdi e r else if t.kind=12 then (ZdD s t).bind fun k=>ZeC k x e r else if t.kind=4 then ZaQ (x.size+1) x.size e r else some (e,r)
theorem ZwH (e e':El) (r:List El) (hf:fit e r) (h:ZuK e=some e'):PC 136 [] e r (.tup []) e' r:=by{
unfold ZuK at h
split at h
rename_i hk
obtain ⟨kind,tag,count,list,args⟩:=e
dsimp only at hk
subst hk
rcases args with _ | ⟨pre,a⟩
injection h with h
rw [<- h]
exact Ztk tag count list r hf.1.1
dsimp only at h
split at h
injection h with h
rw [<- h]
exact Ztm tag count list pre a r hf.1
cases h
rename_i hk
exact Ztj e e' r hf.1 hf.2 hk h}
theorem ZsH {e e':El} {r:List El} (hf:fit e r) (h:ZuK e=some e'):fit e' r:=by{
unfold ZuK at h
split at h
rename_i hk
obtain ⟨kind,tag,count,list,args⟩:=e
dsimp only at hk
subst hk
rcases args with _ | ⟨pre,a⟩
injection h with h
rw [<- h]
exact ⟨⟨hf.1.1,fun q hq=>by injection hq with hq;rw [<- hq];exact Nat.zero_le _⟩,by show 0<=_;omega⟩
dsimp only at h
split at h
rename_i hp
injection h with h
rw [<- h]
exact ⟨⟨hf.1.1,fun q hq=>by injection hq with hq;rw [<- hq];simpa using hp⟩,by show 0<=_;omega⟩
cases h
exact Zap hf h}
theorem ZuL (e e':El) (r:List El) (hf:fit e r) (h:ZjS e=some e'):PC 137 [] e r (.tup []) e' r:=by{
obtain ⟨kind,tag,count,list,args⟩:=e
unfold ZjS at h
rcases args with _ | ⟨pre,⟨named,name,value⟩⟩
exact Zk3 _ e' r hf.1 hf.2 (.inr (.inl rfl)) h
dsimp only at h
split at h
rename_i hc
obtain ⟨h1,h2⟩:=hc
subst h1 h2
injection h with h
rw [<- h]
exact Zrj tag count list pre name value r hf.1
rename_i hc
refine Zk3 _ e' r hf.1 hf.2 ?_ h
by_cases hk:kind=3
refine .inr (.inr ⟨pre,_,rfl,?_⟩)
cases named
exact absurd ⟨hk,rfl⟩ hc
rfl
exact .inl hk}
theorem Zo8 {e e':El} {r:List El} (hf:fit e r) (h:ZjS e=some e'):fit e' r:=by{
obtain ⟨kind,tag,count,list,args⟩:=e
unfold ZjS at h
rcases args with _ | ⟨pre,⟨named,name,value⟩⟩
exact Zap hf h
dsimp only at h
split at h
rename_i hc
obtain ⟨h1,h2⟩:=hc
subst h1 h2
injection h with h
rw [<- h]
exact ⟨⟨hf.1.1,fun q hq=>by injection hq with hq;rw [<- hq];exact hf.1.2 (pre,⟨false,name,value⟩) rfl⟩,by show 0<=_;omega⟩
exact Zap hf h}
theorem ZnA (e e':El) (r r':List El) (hf:fits e r) (h:Zdi e r=some (e',r')):PC 138 [] e r (.tup []) e' r':=by{
unfold Zdi at h
split at h
rename_i hk
rcases r with _ | ⟨e2,r⟩
cases h
obtain ⟨a,h1,h⟩:=Option.bind_eq_some_iff.1 h
obtain ⟨b,h2,h⟩:=Option.bind_eq_some_iff.1 h
obtain ⟨c,h3,h⟩:=Option.map_eq_some_iff.1 h
injection h with q1 q2
subst q1 q2
obtain ⟨kind,tag,count,list,args⟩:=e
dsimp only at hk
subst hk
exact ZlG tag count list args e2 a b c r (ZaL hf).1 (Zao (ZaL hf)) h1 h2 h3
rename_i hk
obtain ⟨c,h3,h⟩:=Option.map_eq_some_iff.1 h
injection h with q1 q2
subst q1 q2
exact Zkv e c r (Zao hf) hk h3}
theorem Zju {e e':El} {r r':List El} (hf:fits e r) (h:Zdi e r=some (e',r')):fits e' r':=by{
unfold Zdi at h
split at h
rcases r with _ | ⟨e2,r⟩
cases h
obtain ⟨a,h1,h⟩:=Option.bind_eq_some_iff.1 h
obtain ⟨b,h2,h⟩:=Option.bind_eq_some_iff.1 h
obtain ⟨c,h3,h⟩:=Option.map_eq_some_iff.1 h
injection h with q1 q2
subst q1 q2
exact ZbD (ZaL hf) (Zap (Zdh (Zap (Zao (ZaL hf)) h1) h2) h3)
obtain ⟨c,h3,h⟩:=Option.map_eq_some_iff.1 h
injection h with q1 q2
subst q1 q2
exact ZbD hf (Zap (Zao hf) h3)}
theorem Zkr {k:Int} {s:ByteArray} {e e':El} {r r':List El} (hf:fits e r) (h:ZeC k s e r=some (e',r')):fits e' r':=by{
unfold ZeC at h
split at h
obtain ⟨c,h3,h⟩:=Option.map_eq_some_iff.1 h
injection h with q1 q2
subst q1 q2
exact ZbD hf (Zap (Zao hf) h3)
obtain ⟨⟨e1,r1⟩,h1,h⟩:=Option.bind_eq_some_iff.1 h
have hf1:=Zft hf h1
rcases r1 with _ | ⟨e2,r2⟩
cases h
obtain ⟨c,h3,h⟩:=Option.map_eq_some_iff.1 h
injection h with q1 q2
subst q1 q2
exact ZbD (ZaL hf1) (ZeX (Zao (ZaL hf1)) h3)}
theorem Zmw {c:Int} {e e':El} {r r':List El} (hf:fits e r) (h:ZvB c e r=some (e',r')):fits e' r':=by{
obtain ⟨s,hs,h⟩:=Option.bind_eq_some_iff.1 h
obtain ⟨a,h3,h⟩:=Option.map_eq_some_iff.1 h
injection h with q1 q2
subst q1 q2
exact ZbD hf (Zap (Zao hf) h3)}
theorem Zc9:∀ {f:Nat} {c:Int} {e e':El} {r r':List El},fits e r->ZaQ f c e r=some (e',r')->fits e' r'
 | 0,c,e,e',r,r',hf,h=>by cases h
 | f+1,c,e,e',r,r',hf,h=>by
   unfold ZaQ at h
   split at h
   split at h
   exact Zmw hf h
   obtain ⟨⟨e1,r1⟩,h1,h⟩:=Option.bind_eq_some_iff.1 h
   have hf1:=Zft hf h1
   split at h
   split at h
   exact Zc9 (ZbD hf1 ⟨⟨by have:=hf1.1;omega,fun q hq=>by cases hq⟩,by show 1<=9223372036854775807;omega⟩) h
   rcases r1 with _ | ⟨e2,r2⟩
   cases h
   obtain ⟨e4,h4,h⟩:=Option.bind_eq_some_iff.1 h
   exact Zc9 (ZbD (ZaL hf1) (ZiX (Zao (ZaL hf1)) h4)) h
   cases h
   exact Zmw hf h
theorem ZhT {k t c:Int} {x:ByteArray} {e e':El} {r r':List El} (hf:fits e r) (h:Zlj k t c x e r=some (e',r')):fits e' r':=by{
unfold Zlj at h
split at h
obtain ⟨a,h3,h⟩:=Option.map_eq_some_iff.1 h
injection h with q1 q2
subst q1 q2
exact ZbD hf (Zap (Zao hf) h3)
injection h with h
injection h with q1 q2
subst q1 q2
refine ⟨by simp;omega,fun x hx=>?_⟩
rcases List.mem_cons.1 hx with rfl | hx
exact ⟨fun q hq=>(by cases hq),(by show 0<=_;omega)⟩
exact hf.2 x hx}
theorem Zqs (k t c:Int) (x:ByteArray) (e e':El) (r r':List El) (hf:fits e r) (h:Zlj k t c x e r=some (e',r')) :
  ContractG Tryz.prog 134 [.ptr 0 (0,0) 0,.ptr 1 (0,1) 0,.str x] (objs (stP νa e r)++ZpO k t c) (.tup []) (stP νb e' r' ++ []):=by{
rw [List.append_nil]
unfold Zlj at h
split at h
rename_i hr
obtain ⟨a,h3,h⟩:=Option.map_eq_some_iff.1 h
injection h with q1 q2
subst q1 q2
exact ZrW e a r k t c x hr (Zao hf).1 (Zao hf).2 h3
rename_i hr
injection h with h
injection h with q1 q2
subst q1 q2
exact ZrX e r k t c x (by omega)}
theorem ZkM {s:ByteArray} {t:Tok} {e e':El} {r r':List El} (hf:fits e r) (h:Zo7 s t e r=some (e',r')):fits e' r':=by{
obtain ⟨x,hx,h⟩:=Option.bind_eq_some_iff.1 h
have one:∀ {o:Option El},(∀ a,o=some a->fit a r)->o.map (fun e'=>(e',r))=some (e',r')->fits e' r':=fun h1 h=>by
 obtain ⟨a,h3,h⟩:=Option.map_eq_some_iff.1 h
 injection h with q1 q2
 subst q1 q2
 exact ZbD hf (h1 a h3)
split at h
exact one (fun a ha=>Zap (Zao hf) ha) h
split at h
exact one (fun a ha=>ZeX (Zao hf) ha) h
split at h
obtain ⟨y,hy,h⟩:=Option.bind_eq_some_iff.1 h
exact one (fun a ha=>ZeX (Zao hf) ha) h
split at h
exact ZhT hf h
split at h
exact ZhT hf h
split at h
obtain ⟨y,hy,h⟩:=Option.bind_eq_some_iff.1 h
exact ZhT hf h
split at h
exact one (fun a ha=>ZsH (Zao hf) ha) h
split at h
exact one (fun a ha=>Zo8 (Zao hf) ha) h
split at h
exact Zju hf h
split at h
obtain ⟨y,hy,h⟩:=Option.bind_eq_some_iff.1 h
exact Zkr hf h
split at h
exact Zc9 hf h
injection h with h
injection h with q1 q2
subst q1 q2
exact hf}
set_option maxRecDepth 100000 in
set_option maxHeartbeats 2000000 in
theorem ZvS (s:ByteArray) (t:Tok) (e e':El) (r r':List El) (hf:fits e r) (h:Zo7 s t e r=some (e',r')):PC 86 [.str s,t.pv] e r (.tup []) e' r':=by{
have hft:=Zao hf
obtain ⟨x,hx,h⟩:=Option.bind_eq_some_iff.1 h
obtain ⟨tk,tf,tt⟩:=t
refine ZG mix Tryz.func86 (by kernel_rfl) rfl (by kernel_rfl) ?_
rw [Zcd]
repeat (first | (refine ZfH (Ziw _ _ _ hx) rfl rfl ?_) | refine Zq rfl (by (conv=>lhs;whnf);try rfl) ?_ | refine ZH rfl rfl rfl ?_ | refine Zl rfl rfl ?_ | refine Zr rfl (by (conv=>lhs;whnf);try rfl) ?_ | refine Zae rfl rfl rfl rfl (by (conv=>lhs;whnf);try rfl) ?_ | refine ZkC rfl (by (conv=>lhs;whnf);try rfl) (by (conv=>lhs;whnf);try rfl) (by rfl) ?_ | refine Zd ?_ | refine Zk ?_ | refine Za ?_ | refine Zaq ?_)
by_cases h1:tk=1
·subst h1
 rw [if_pos (show (1:Int)=1\/(1:Int)=2 by decide)] at h
 obtain ⟨a,ha,h⟩:=Option.map_eq_some_iff.1 h
 injection h with q1 q2
 subst q1 q2
 repeat (first | (refine Zs rfl rfl ?_) | (refine Zz [_] νa (Zb4 e r x hft.1 hft.2 a ha) rfl rfl rfl rfl rfl rfl ?_) | refine Zq rfl (by (conv=>lhs;whnf);try rfl) ?_ | refine Zd ?_ | refine Za ?_ | refine ZF ?_ | refine ZD ?_ | refine Zac ?_)
 exact ZbA (.inr rfl) (νc _ _) [_] [] rfl rfl trivial rfl rfl
by_cases h2:tk=2
·subst h2
 rw [if_pos (show (2:Int)=1\/(2:Int)=2 by decide)] at h
 obtain ⟨a,ha,h⟩:=Option.map_eq_some_iff.1 h
 injection h with q1 q2
 subst q1 q2
 repeat (first | (refine Zs rfl rfl ?_) | (refine Zj rfl rfl ?_) | (refine Zz [_] νa (Zb4 e r x hft.1 hft.2 a ha) rfl rfl rfl rfl rfl rfl ?_) | refine Zq rfl (by (conv=>lhs;whnf);try rfl) ?_ | refine Zr rfl (by (conv=>lhs;whnf);try rfl) ?_ | refine Zae rfl rfl rfl rfl (by (conv=>lhs;whnf);try rfl) ?_ | refine Zd ?_ | refine Za ?_ | refine ZD ?_ | refine Zac ?_)
 exact ZbA (.inr rfl) (νc _ _) [_] [] rfl rfl trivial rfl rfl
by_cases h9:tk=9
·subst h9
 rw [if_neg (show ¬ ((9:Int)=1\/(9:Int)=2) by decide)] at h
 rw [if_pos (show (9:Int)=9 by decide)] at h
 obtain ⟨a,ha,h⟩:=Option.map_eq_some_iff.1 h
 injection h with q1 q2
 subst q1 q2
 repeat (first | (refine Zs rfl rfl ?_) | (refine Zj rfl rfl ?_) | (refine Zz [_] νa (ZrF e a r 2 0 x hft.1 ha) rfl rfl rfl rfl rfl rfl ?_) | refine Zq rfl (by (conv=>lhs;whnf);try rfl) ?_ | refine Zr rfl (by (conv=>lhs;whnf);try rfl) ?_ | refine Zae rfl rfl rfl rfl (by (conv=>lhs;whnf);try rfl) ?_ | refine Zby rfl rfl ?_ | refine Zd ?_ | refine Zk ?_ | refine Za ?_ | refine ZD ?_ | refine Zac ?_)
 exact ZbA (.inr rfl) (νc _ _) [_] [] rfl rfl trivial rfl rfl
by_cases h10:tk=10
·subst h10
 rw [if_neg (show ¬ ((10:Int)=1\/(10:Int)=2) by decide)] at h
 rw [if_neg (show ¬ (10:Int)=9 by decide)] at h
 rw [if_pos (show (10:Int)=10 by decide)] at h
 obtain ⟨y,hy,h⟩:=Option.bind_eq_some_iff.1 h
 obtain ⟨a,ha,h⟩:=Option.map_eq_some_iff.1 h
 injection h with q1 q2
 subst q1 q2
 repeat (first | (refine Zs rfl rfl ?_) | (refine Zj rfl rfl ?_) | (refine Zmz StrT.eq rfl hy rfl rfl rfl ?_) | (refine Zz [_] νa (ZrF e a r 3 0 y hft.1 ha) rfl rfl rfl rfl rfl rfl ?_) | refine Zq rfl (by (conv=>lhs;whnf);try rfl) ?_ | refine Zr rfl (by (conv=>lhs;whnf);try rfl) ?_ | refine Zae rfl rfl rfl rfl (by (conv=>lhs;whnf);try rfl) ?_ | refine Zf3 Tryz.underlying9 rfl rfl ?_ | refine Zby rfl rfl ?_ | refine Zd ?_ | refine Zk ?_ | refine Za ?_ | refine ZD ?_ | refine Zac ?_)
 exact ZbA (.inr rfl) (νc _ _) [_] [] rfl rfl trivial rfl rfl
by_cases h3:tk=3
·subst h3
 rw [if_neg (show ¬ ((3:Int)=1\/(3:Int)=2) by decide)] at h
 rw [if_neg (show ¬ (3:Int)=9 by decide)] at h
 rw [if_neg (show ¬ (3:Int)=10 by decide)] at h
 rw [if_pos (show (3:Int)=3 by decide)] at h
 repeat (first | (refine Zs rfl rfl ?_) | (refine Zj rfl rfl ?_) | refine Zq rfl (by (conv=>lhs;whnf);try rfl) ?_ | refine Zr rfl (by (conv=>lhs;whnf);try rfl) ?_ | refine Zae rfl rfl rfl rfl (by (conv=>lhs;whnf);try rfl) ?_ | refine Zf3 Tryz.underlying9 rfl rfl ?_ | refine ZkC rfl (by (conv=>lhs;whnf);try rfl) (by (conv=>lhs;whnf);try rfl) (by rfl) ?_ | refine Zby rfl rfl ?_ | refine Zd ?_ | refine Zk ?_ | refine Za ?_)
 refine ZlU (xin:=ZpO _ _ _) (ext:=[]) (ext2:=[]) [_,_] νa (fun _=>40) (fun _=>(9,4)) (Zqs 3 0 x.size x e e' r r' hf h) rfl rfl rfl rfl (List.mem_cons_self ..) ⟨⟨_,rfl,rfl⟩,trivial⟩ (fun _ _=>⟨_,List.mem_cons_of_mem _ (List.mem_cons_self ..)⟩) rfl rfl rfl rfl ?_
 repeat (first | refine Zd ?_ | refine ZD ?_ | refine Zac ?_)
 exact ZbA (.inr rfl) (νc _ _) [_,_,_] [] rfl rfl trivial rfl rfl
by_cases h5:tk=5
·subst h5
 rw [if_neg (show ¬ ((5:Int)=1\/(5:Int)=2) by decide)] at h
 rw [if_neg (show ¬ (5:Int)=9 by decide)] at h
 rw [if_neg (show ¬ (5:Int)=10 by decide)] at h
 rw [if_neg (show ¬ (5:Int)=3 by decide)] at h
 rw [if_pos (show (5:Int)=5 by decide)] at h
 repeat (first | (refine Zs rfl rfl ?_) | (refine Zj rfl rfl ?_) | refine Zq rfl (by (conv=>lhs;whnf);try rfl) ?_ | refine Zr rfl (by (conv=>lhs;whnf);try rfl) ?_ | refine Zae rfl rfl rfl rfl (by (conv=>lhs;whnf);try rfl) ?_ | refine ZkC rfl (by (conv=>lhs;whnf);try rfl) (by (conv=>lhs;whnf);try rfl) (by rfl) ?_ | refine Zby rfl rfl ?_ | refine Zd ?_ | refine Zk ?_ | refine Za ?_)
 refine ZlU (xin:=ZpO _ _ _) (ext:=[]) (ext2:=[]) [_,_] νa (fun _=>47) (fun _=>(10,2)) (Zqs 1 0 0 x e e' r r' hf h) rfl rfl rfl rfl (List.mem_cons_self ..) ⟨⟨_,rfl,rfl⟩,trivial⟩ (fun _ _=>⟨_,List.mem_cons_of_mem _ (List.mem_cons_self ..)⟩) rfl rfl rfl rfl ?_
 repeat (first | refine Zd ?_ | refine ZD ?_ | refine Zac ?_)
 exact ZbA (.inr rfl) (νc _ _) [_,_,_] [] rfl rfl trivial rfl rfl
by_cases h11:tk=11
·subst h11
 rw [if_neg (show ¬ ((11:Int)=1\/(11:Int)=2) by decide)] at h
 rw [if_neg (show ¬ (11:Int)=9 by decide)] at h
 rw [if_neg (show ¬ (11:Int)=10 by decide)] at h
 rw [if_neg (show ¬ (11:Int)=3 by decide)] at h
 rw [if_neg (show ¬ (11:Int)=5 by decide)] at h
 rw [if_pos (show (11:Int)=11 by decide)] at h
 obtain ⟨k,hk,h⟩:=Option.bind_eq_some_iff.1 h
 repeat (first | (refine Zs rfl rfl ?_) | (refine Zj rfl rfl ?_) | (refine ZfH (ZjF _ _ _ hk) rfl rfl ?_) | refine Zq rfl (by (conv=>lhs;whnf);try rfl) ?_ | refine ZH rfl rfl rfl ?_ | refine Zr rfl (by (conv=>lhs;whnf);try rfl) ?_ | refine Zae rfl rfl rfl rfl (by (conv=>lhs;whnf);try rfl) ?_ | refine ZkC rfl (by (conv=>lhs;whnf);try rfl) (by (conv=>lhs;whnf);try rfl) (by rfl) ?_ | refine Zby rfl rfl ?_ | refine Zd ?_ | refine Zk ?_ | refine Za ?_)
 refine ZlU (xin:=ZpO _ _ _) (ext:=[]) (ext2:=[]) [_,_] νa (fun _=>57) (fun _=>(11,5)) (Zqs 2 k 0 x e e' r r' hf h) rfl rfl rfl rfl (List.mem_cons_self ..) ⟨⟨_,rfl,rfl⟩,trivial⟩ (fun _ _=>⟨_,List.mem_cons_of_mem _ (List.mem_cons_self ..)⟩) rfl rfl rfl rfl ?_
 repeat (first | refine Zd ?_ | refine ZD ?_ | refine Zac ?_)
 exact ZbA (.inr rfl) (νc _ _) [_,_,_] [] rfl rfl trivial rfl rfl
by_cases h7:tk=7
·subst h7
 rw [if_neg (show ¬ ((7:Int)=1\/(7:Int)=2) by decide)] at h
 rw [if_neg (show ¬ (7:Int)=9 by decide)] at h
 rw [if_neg (show ¬ (7:Int)=10 by decide)] at h
 rw [if_neg (show ¬ (7:Int)=3 by decide)] at h
 rw [if_neg (show ¬ (7:Int)=5 by decide)] at h
 rw [if_neg (show ¬ (7:Int)=11 by decide)] at h
 rw [if_pos (show (7:Int)=7 by decide)] at h
 obtain ⟨a,ha,h⟩:=Option.map_eq_some_iff.1 h
 injection h with q1 q2
 subst q1 q2
 repeat (first | (refine Zs rfl rfl ?_) | (refine Zj rfl rfl ?_) | (refine Zz [_] νa (ZwH e a r hft ha) rfl rfl rfl rfl rfl rfl ?_) | refine Zq rfl (by (conv=>lhs;whnf);try rfl) ?_ | refine Zr rfl (by (conv=>lhs;whnf);try rfl) ?_ | refine Zae rfl rfl rfl rfl (by (conv=>lhs;whnf);try rfl) ?_ | refine Zd ?_ | refine Zk ?_ | refine Za ?_ | refine ZD ?_ | refine Zac ?_)
 exact ZbA (.inr rfl) (νc _ _) [_] [] rfl rfl trivial rfl rfl
by_cases h8:tk=8
·subst h8
 rw [if_neg (show ¬ ((8:Int)=1\/(8:Int)=2) by decide)] at h
 rw [if_neg (show ¬ (8:Int)=9 by decide)] at h
 rw [if_neg (show ¬ (8:Int)=10 by decide)] at h
 rw [if_neg (show ¬ (8:Int)=3 by decide)] at h
 rw [if_neg (show ¬ (8:Int)=5 by decide)] at h
 rw [if_neg (show ¬ (8:Int)=11 by decide)] at h
 rw [if_neg (show ¬ (8:Int)=7 by decide)] at h
 rw [if_pos (show (8:Int)=8 by decide)] at h
 obtain ⟨a,ha,h⟩:=Option.map_eq_some_iff.1 h
 injection h with q1 q2
 subst q1 q2
 repeat (first | (refine Zs rfl rfl ?_) | (refine Zj rfl rfl ?_) | (refine Zz [_] νa (ZuL e a r hft ha) rfl rfl rfl rfl rfl rfl ?_) | refine Zq rfl (by (conv=>lhs;whnf);try rfl) ?_ | refine Zr rfl (by (conv=>lhs;whnf);try rfl) ?_ | refine Zae rfl rfl rfl rfl (by (conv=>lhs;whnf);try rfl) ?_ | refine Zd ?_ | refine Zk ?_ | refine Za ?_ | refine ZD ?_ | refine Zac ?_)
 exact ZbA (.inr rfl) (νc _ _) [_] [] rfl rfl trivial rfl rfl
by_cases h6:tk=6
·subst h6
 rw [if_neg (show ¬ ((6:Int)=1\/(6:Int)=2) by decide)] at h
 rw [if_neg (show ¬ (6:Int)=9 by decide)] at h
 rw [if_neg (show ¬ (6:Int)=10 by decide)] at h
 rw [if_neg (show ¬ (6:Int)=3 by decide)] at h
 rw [if_neg (show ¬ (6:Int)=5 by decide)] at h
 rw [if_neg (show ¬ (6:Int)=11 by decide)] at h
 rw [if_neg (show ¬ (6:Int)=7 by decide)] at h
 rw [if_neg (show ¬ (6:Int)=8 by decide)] at h
 rw [if_pos (show (6:Int)=6 by decide)] at h
 repeat (first | (refine Zs rfl rfl ?_) | (refine Zj rfl rfl ?_) | (refine Zz [_] νa (ZnA e e' r r' hf h) rfl rfl rfl rfl rfl rfl ?_) | refine Zq rfl (by (conv=>lhs;whnf);try rfl) ?_ | refine Zr rfl (by (conv=>lhs;whnf);try rfl) ?_ | refine Zae rfl rfl rfl rfl (by (conv=>lhs;whnf);try rfl) ?_ | refine Zd ?_ | refine Zk ?_ | refine Za ?_ | refine ZD ?_ | refine Zac ?_)
 exact ZbA (.inr rfl) (νc _ _) [_] [] rfl rfl trivial rfl rfl
by_cases h12:tk=12
·subst h12
 rw [if_neg (show ¬ ((12:Int)=1\/(12:Int)=2) by decide)] at h
 rw [if_neg (show ¬ (12:Int)=9 by decide)] at h
 rw [if_neg (show ¬ (12:Int)=10 by decide)] at h
 rw [if_neg (show ¬ (12:Int)=3 by decide)] at h
 rw [if_neg (show ¬ (12:Int)=5 by decide)] at h
 rw [if_neg (show ¬ (12:Int)=11 by decide)] at h
 rw [if_neg (show ¬ (12:Int)=7 by decide)] at h
 rw [if_neg (show ¬ (12:Int)=8 by decide)] at h
 rw [if_neg (show ¬ (12:Int)=6 by decide)] at h
 rw [if_pos (show (12:Int)=12 by decide)] at h
 obtain ⟨k,hk,h⟩:=Option.bind_eq_some_iff.1 h
 repeat (first | (refine Zs rfl rfl ?_) | (refine Zj rfl rfl ?_) | (refine ZfH (ZjF _ _ _ hk) rfl rfl ?_) | (refine Zz [_] νa (ZpF k x e e' r r' hf h) rfl rfl rfl rfl rfl rfl ?_) | refine Zq rfl (by (conv=>lhs;whnf);try rfl) ?_ | refine ZH rfl rfl rfl ?_ | refine Zr rfl (by (conv=>lhs;whnf);try rfl) ?_ | refine Zae rfl rfl rfl rfl (by (conv=>lhs;whnf);try rfl) ?_ | refine Zd ?_ | refine Zk ?_ | refine Za ?_ | refine ZD ?_ | refine Zac ?_)
 exact ZbA (.inr rfl) (νc _ _) [_] [] rfl rfl trivial rfl rfl
by_cases h4:tk=4
·subst h4
 rw [if_neg (show ¬ ((4:Int)=1\/(4:Int)=2) by decide)] at h
 rw [if_neg (show ¬ (4:Int)=9 by decide)] at h
 rw [if_neg (show ¬ (4:Int)=10 by decide)] at h
 rw [if_neg (show ¬ (4:Int)=3 by decide)] at h
 rw [if_neg (show ¬ (4:Int)=5 by decide)] at h
 rw [if_neg (show ¬ (4:Int)=11 by decide)] at h
 rw [if_neg (show ¬ (4:Int)=7 by decide)] at h
 rw [if_neg (show ¬ (4:Int)=8 by decide)] at h
 rw [if_neg (show ¬ (4:Int)=6 by decide)] at h
 rw [if_neg (show ¬ (4:Int)=12 by decide)] at h
 rw [if_pos (show (4:Int)=4 by decide)] at h
 repeat (first | (refine Zs rfl rfl ?_) | (refine Zj rfl rfl ?_) | (refine Zz [_] νa (Zlz _ x.size e e' r r' hf h) rfl rfl rfl rfl rfl rfl ?_) | refine Zq rfl (by (conv=>lhs;whnf);try rfl) ?_ | refine Zr rfl (by (conv=>lhs;whnf);try rfl) ?_ | refine Zae rfl rfl rfl rfl (by (conv=>lhs;whnf);try rfl) ?_ | refine Zf3 Tryz.underlying9 rfl rfl ?_ | refine Zd ?_ | refine Zk ?_ | refine Za ?_ | refine ZD ?_ | refine Zac ?_)
 exact ZbA (.inr rfl) (νc _ _) [_] [] rfl rfl trivial rfl rfl
rw [if_neg (fun q:tk=1\/tk=2=>q.elim h1 h2)] at h
rw [if_neg h9] at h
rw [if_neg h10] at h
rw [if_neg h3] at h
rw [if_neg h5] at h
rw [if_neg h11] at h
rw [if_neg h7] at h
rw [if_neg h8] at h
rw [if_neg h6] at h
rw [if_neg h12] at h
rw [if_neg h4] at h
injection h with h
injection h with q1 q2
subst q1 q2
rw [decide_eq_false h1]
repeat (first | (refine Zj rfl rfl ?_) | refine Zr rfl (by (conv=>lhs;whnf);try rfl) ?_ | refine Zae rfl rfl rfl rfl (by (conv=>lhs;whnf);try rfl) ?_ | refine Zd ?_ | refine Za ?_)
rw [decide_eq_false h2]
repeat (first | (refine Zj rfl rfl ?_) | refine Zr rfl (by (conv=>lhs;whnf);try rfl) ?_ | refine Zae rfl rfl rfl rfl (by (conv=>lhs;whnf);try rfl) ?_ | refine Zd ?_ | refine Zk ?_ | refine Za ?_)
rw [decide_eq_false h9]
repeat (first | (refine Zj rfl rfl ?_) | refine Zr rfl (by (conv=>lhs;whnf);try rfl) ?_ | refine Zae rfl rfl rfl rfl (by (conv=>lhs;whnf);try rfl) ?_ | refine Zd ?_ | refine Zk ?_ | refine Za ?_)
rw [decide_eq_false h10]
repeat (first | (refine Zj rfl rfl ?_) | refine Zr rfl (by (conv=>lhs;whnf);try rfl) ?_ | refine Zae rfl rfl rfl rfl (by (conv=>lhs;whnf);try rfl) ?_ | refine Zd ?_ | refine Zk ?_ | refine Za ?_)
rw [decide_eq_false h3]
repeat (first | (refine Zj rfl rfl ?_) | refine Zr rfl (by (conv=>lhs;whnf);try rfl) ?_ | refine Zae rfl rfl rfl rfl (by (conv=>lhs;whnf);try rfl) ?_ | refine Zd ?_ | refine Zk ?_ | refine Za ?_)
rw [decide_eq_false h5]
repeat (first | (refine Zj rfl rfl ?_) | refine Zr rfl (by (conv=>lhs;whnf);try rfl) ?_ | refine Zae rfl rfl rfl rfl (by (conv=>lhs;whnf);try rfl) ?_ | refine Zd ?_ | refine Zk ?_ | refine Za ?_)
rw [decide_eq_false h11]
repeat (first | (refine Zj rfl rfl ?_) | refine Zr rfl (by (conv=>lhs;whnf);try rfl) ?_ | refine Zae rfl rfl rfl rfl (by (conv=>lhs;whnf);try rfl) ?_ | refine Zd ?_ | refine Zk ?_ | refine Za ?_)
rw [decide_eq_false h7]
repeat (first | (refine Zj rfl rfl ?_) | refine Zr rfl (by (conv=>lhs;whnf);try rfl) ?_ | refine Zae rfl rfl rfl rfl (by (conv=>lhs;whnf);try rfl) ?_ | refine Zd ?_ | refine Zk ?_ | refine Za ?_)
rw [decide_eq_false h8]
repeat (first | (refine Zj rfl rfl ?_) | refine Zr rfl (by (conv=>lhs;whnf);try rfl) ?_ | refine Zae rfl rfl rfl rfl (by (conv=>lhs;whnf);try rfl) ?_ | refine Zd ?_ | refine Zk ?_ | refine Za ?_)
rw [decide_eq_false h6]
repeat (first | (refine Zj rfl rfl ?_) | refine Zr rfl (by (conv=>lhs;whnf);try rfl) ?_ | refine Zae rfl rfl rfl rfl (by (conv=>lhs;whnf);try rfl) ?_ | refine Zd ?_ | refine Zk ?_ | refine Za ?_)
rw [decide_eq_false h12]
repeat (first | (refine Zj rfl rfl ?_) | refine Zr rfl (by (conv=>lhs;whnf);try rfl) ?_ | refine Zae rfl rfl rfl rfl (by (conv=>lhs;whnf);try rfl) ?_ | refine Zd ?_ | refine Zk ?_ | refine Za ?_)
rw [decide_eq_false h4]
repeat (first | (refine Zj rfl rfl ?_) | refine ZF ?_ | refine ZD ?_ | refine Zac ?_)
exact ZbA (.inr rfl) νa [_] [] rfl rfl trivial rfl rfl}
def νp (k:Nat):Gen:=(1,k)
theorem ZnL (ν:Nat->Gen) {e:El} {r:List El} (lits:List (Nat×Option (Gen×VObj))) {tm tm':List (Nat×PV)} {ob:List (Nat×Option (Gen×VObj))} {ng:Nat} (h1:Zf7 (σf fun k=>(k,ν k)) tm tm') (hob:ob=lits++somes (stP ν e r)) (hl:(lits.all fun q=>!Zbn q.1)=true) :
  Shift (mkS tm ob ng) (mkS tm' (somes (stP νp e r)) 2):=
 ZfA _ h1 (ZkN (ν:=νp) (ν':=ν) (fun _ _=>rfl) e r) (by rw [hob];exact Zbg hl) (ZaV _ _ _)
def ZjJ (s:ByteArray):List Tok->El->List El->Option (El×List El) | [],e,r=>some (e,r) | t::l,e,r=>(Zo7 s t e r).bind fun q=>ZjJ s l q.1 q.2
theorem ZjK {s:ByteArray}:∀ {l:List Tok} {e e':El} {r r':List El},fits e r->ZjJ s l e r=some (e',r')->fits e' r'
 | [],e,e',r,r',hf,h=>by injection h with h;injection h with h1 h2;rw [<- h1,<- h2];exact hf
 | t::l,e,e',r,r',hf,h=>by
   obtain ⟨⟨e1,r1⟩,h1,h⟩:=Option.bind_eq_some_iff.1 h
   exact ZjK (ZkM hf h1) h
def ZqY (s:ByteArray):Option (List (List PV)×Int):=(Ze7 s).bind fun q=>if q.2=0 then (if q.1.length<=4611686018427387904 then (ZjJ s q.1 ⟨0,0,0,[],none⟩ []).bind fun p=>(ZfG p.2.length p.1 p.2).map fun z=>(z.1.list,0) else none) else some ([],q.2)
abbrev startf (k:Nat):Nat×Gen:=if k=0 then (21,(4,4)) else if k=1000 then (19,(4,2)) else if k=1001 then (18,(4,1)) else if k=1002 then (60,(6,0)) else (61,(7,0))
set_option maxRecDepth 100000 in
set_option maxHeartbeats 2000000 in
theorem Ztb (s:ByteArray) (res:List (List PV)×Int) (h:ZqY s=some res):Zg Tryz.prog 41 [.str s] (.tup [.sl res.1,.int .i64 res.2]):=by{
obtain ⟨⟨l,e0⟩,hq,h⟩:=Option.bind_eq_some_iff.1 h
refine ZbM mix Tryz.func41 (by kernel_rfl) rfl (by kernel_rfl) ?_
repeat (first | (refine ZfH (ZmN _ _ hq) rfl rfl ?_) | refine Zq rfl (by (conv=>lhs;whnf);try rfl) ?_ | refine Zr rfl (by (conv=>lhs;whnf);try rfl) ?_ | refine Zae rfl rfl rfl rfl (by (conv=>lhs;whnf);try rfl) ?_ | refine Zfi rfl rfl rfl ?_ | refine Zd ?_ | refine Zk ?_ | refine Za ?_)
dsimp only at h
by_cases he:e0=0
rotate_left
·rw [if_neg he] at h
 injection h with h
 subst h
 rw [decide_eq_false he]
 repeat (first | (refine Zs rfl rfl ?_) | refine Zq rfl (by (conv=>lhs;whnf);try rfl) ?_ | refine Zr rfl (by (conv=>lhs;whnf);try rfl) ?_ | refine Zd ?_ | refine Zk ?_ | refine Za ?_ | refine Zbi ?_)
 exact Zes rfl rfl rfl
rw [if_pos he] at h
by_cases hl:l.length<=4611686018427387904
rotate_left
rw [if_neg hl] at h
cases h
rw [if_pos hl] at h
obtain ⟨⟨e1,r1⟩,hp,h⟩:=Option.bind_eq_some_iff.1 h
obtain ⟨⟨e2,r2⟩,hz,h⟩:=Option.map_eq_some_iff.1 h
subst h
rw [decide_eq_true he]
have hf0:fits ⟨0,0,0,[],none⟩ []:=⟨Nat.zero_le _,fun x hx=>by
 rw [List.mem_singleton.1 hx]
 exact ⟨fun q hq=>(by cases hq),Nat.zero_le _⟩⟩
have hf1:=ZjK hf0 hp
repeat (first | (refine Zj rfl rfl ?_) | (refine ZiV rfl rfl rfl rfl (Nat.le_of_ble_eq_true rfl) rfl ?_) | refine Zq rfl (by (conv=>lhs;whnf);try rfl) ?_ | refine Zr rfl (by (conv=>lhs;whnf);try rfl) ?_ | refine ZhB rfl rfl ?_ | refine ZkC rfl (by (conv=>lhs;whnf);try rfl) (by (conv=>lhs;whnf);try rfl) (by rfl) ?_ | refine Zby rfl rfl ?_ | refine Zd ?_ | refine Zk ?_ | refine Za ?_ | refine Zaq ?_ | refine ZF ?_)
refine Zv (fun (a:Nat×El×List El) _=>mkS [(0,.str s),(6,.ptr 0 (1,0) 0),(22,.sl (l.map Tok.cs)),(23,.int .i64 ((l.map Tok.cs).length:Int)),(24,.int .i64 ((a.1:Nat):Int))] (somes (stP νp a.2.1 a.2.2)) 2) (fun a=>a.1<=l.length/\fits a.2.1 a.2.2/\ZjJ s (l.drop a.1) a.2.1 a.2.2=some (e1,r1)) (fun a=>l.length-a.1) (0,⟨0,0,0,[],none⟩,[]) 2 ⟨Nat.zero_le _,hf0,hp⟩
 (Shift.trans (Za0 18 60 3 166 5 rfl rfl rfl) (Shift.trans (Za0 18 61 4 170 3 rfl rfl rfl) (Shift.trans (ZcC (t:=61) rfl) (ZfA startf ⟨rfl,rfl,rfl,rfl,rfl,trivial⟩ rfl (Zo rfl (Zo rfl (Zo rfl (Zo rfl (Zo rfl (Zab _)))))) (by decide))))) (fun a ng hJ=>?_)
obtain ⟨q,e3,r3⟩:=a
obtain ⟨hqq,hf3,ht⟩:=hJ
dsimp only at hqq hf3 ht ⊢
repeat (first | refine Zae rfl rfl rfl rfl (by (conv=>lhs;whnf);try rfl) ?_ | refine Zd ?_ | refine Zk ?_ | refine Za ?_)
by_cases hlt:q<l.length
·refine Zs (by (conv=>lhs;whnf);try rfl) (by simp;omega) ?_
 rw [List.drop_eq_getElem_cons hlt] at ht
 obtain ⟨⟨e4,r4⟩,h4,ht⟩:=Option.bind_eq_some_iff.1 ht
 have hcs:(l.map Tok.cs)[q]? = some (Tok.cs l[q]):=by rw [List.getElem?_map,List.getElem?_eq_getElem hlt];rfl
 repeat (first | (refine Zd9 rfl rfl rfl hcs rfl ?_) | (refine Zz [_,_] νp (ZvS s _ e3 e4 r3 r4 hf3 h4) rfl rfl rfl rfl rfl rfl ?_) | refine Zq rfl (by (conv=>lhs;whnf);try rfl) ?_ | refine ZH rfl rfl rfl ?_ | refine Znv rfl rfl (by omega) ?_ | refine Zdp rfl rfl ?_ | refine ZaN rfl rfl rfl (by (conv=>lhs;whnf);try rfl) (by (conv=>lhs;whnf);try rfl) (by rfl) (by rfl) (Nat.le_of_ble_eq_true rfl) (by (conv=>lhs;whnf);try rfl) ?_ | refine Zd ?_ | refine Zk ?_ | refine Za ?_ | refine Zaq ?_ | refine ZF ?_ | refine ZD ?_)
 exact Zak (q+1,e4,r4) 2 ⟨by dsimp only;omega,ZkM hf3 h4,ht⟩ (by dsimp only;omega) (ZnL (νn (1,0) 4 3) [_,_] ⟨rfl,rfl,rfl,rfl,rfl,trivial⟩ rfl rfl)
·refine Zj (by (conv=>lhs;whnf);try rfl) (by simp;omega) ?_
 obtain rfl:q=l.length:=by omega
 rw [List.drop_length] at ht
 injection ht with ht
 injection ht with q1 q2
 subst q1 q2
 repeat (first | refine Zk ?_ | refine Zaq ?_ | refine Za8 ?_)
 refine Zv (fun (a:El×List El) _=>mkS [(6,.ptr 0 (1,0) 0)] (somes (stP νp a.1 a.2)) 2) (fun a=>fits a.1 a.2/\ZfG a.2.length a.1 a.2=some (e2,r2)) (fun a=>a.2.length) (e3,r3) 2 ⟨hf3,hz⟩ (ZnL νp [] ⟨rfl,trivial⟩ rfl rfl) (fun a ng hJ=>?_)
 obtain ⟨e5,r5⟩:=a
 obtain ⟨hf5,hft⟩:=hJ
 dsimp only at hf5 hft ⊢
 have hr5:=hf5.1
 repeat (first | (refine Zbf rfl rfl (Zb9 _ _ _) ?_) | refine Zq rfl (by (conv=>lhs;whnf);try rfl) ?_ | refine ZH rfl rfl rfl ?_ | refine Zl rfl rfl ?_ | refine Zae rfl rfl rfl rfl (by (conv=>lhs;whnf);try rfl) ?_ | refine ZaK rfl rfl ?_ | refine Zd ?_ | refine Zk ?_ | refine Za ?_)
 rcases r5 with _ | ⟨e6,r6⟩
 ·injection hft with hft
  injection hft with q1 q2
  subst q1 q2
  repeat (first | (refine Zj rfl rfl ?_) | (refine Zai [] νp (ZdP e5 [] (Nat.zero_le _)) rfl rfl rfl rfl rfl rfl ?_) | refine Zq rfl (by (conv=>lhs;whnf);try rfl) ?_ | refine ZH rfl rfl rfl ?_ | refine Zl rfl rfl ?_ | refine Zr rfl (by (conv=>lhs;whnf);try rfl) ?_ | refine ZaK rfl rfl ?_ | refine Zd ?_ | refine Zk ?_ | refine Za ?_ | refine Zbi ?_ | refine Za8 ?_)
  exact Zes rfl rfl rfl
 ·rw [show decide ((1:Int)<(((e6::r6).length+1:Nat):Int))=true from decide_eq_true (by simp;omega)]
  obtain ⟨e7,he7,hft⟩:=Option.bind_eq_some_iff.1 hft
  repeat (first | (refine Zs rfl rfl ?_) | (refine Zz [] νp (ZjR e5 e6 e7 r6 (by simp at hr5;omega) (Zao (ZaL hf5)) he7) rfl rfl rfl rfl rfl rfl ?_) | refine Zq rfl (by (conv=>lhs;whnf);try rfl) ?_ | refine Zd ?_ | refine Za ?_ | refine Zaq ?_ | refine ZF ?_ | refine ZD ?_ | refine Zac ?_)
  exact Zak (e7,r6) 2 ⟨Zd1 hf5 he7,hft⟩ (by dsimp only;simp) (ZnL (νn (1,0) 3 1) [] ⟨rfl,trivial⟩ rfl rfl)}
def Zeq (s:ByteArray):Option (List Node×Int):=(ZqY s).bind fun q=>(Zbq q.1).map fun l=>(l,q.2)
theorem Zly (s:ByteArray) (r:List Node×Int) (h:Zeq s=some r):Zg Tryz.prog 41 [.str s] (.tup [.sl (List.map Node.cs r.1),.int .i64 r.2]):=by{
obtain ⟨q,hq,h⟩:=Option.bind_eq_some_iff.1 h
obtain ⟨l,hl,h⟩:=Option.map_eq_some_iff.1 h
subst h
have:=Ztb s q hq
rw [Zd7 hl] at this
exact this}
end Go.Proofs.YtpffimahajgiaaaGreatDoor
namespace Go.Proofs.YtpffimahajgiaaaGreatDoor
open VL Go.RowKit
theorem ZtX (B b:Nat) (bs:List Value) (s:ByteArray) (w:World) (h:Lib.IsBuilderF 121 5 B b bs w) (hlen:bs.length+s.size<=140737488355328) (hBw:B<=w.heap.size) :
  Calls Tryz.prog 62 #[.pointer (some ⟨b,0,none⟩),.string s] w fun e w'=>e = .returned (.tuple #[.int .i64 s.size,.nilIface])/\(Lib.BuilderAtF 121 5 B b (.pointer (some ⟨b,0,none⟩)) (bs++Lib.strCells s) w'/\Below B w w'):=
 Any.Builder_WriteString_f (P:=Tryz.prog) (ρ:=Tryz.lays105_ren) { Tryz.lays105 with } Tryz.Builder_Extra_105 B b bs s w h hlen hBw
structure SlW where
 a:Option Addr
 n:Nat
 c:Nat
structure NodeW where
 kind:Int
 tag:Int
 text:ByteArray
 kids:SlW
 args:SlW
instance:Enc NodeW where
 k:=5
 R _ _ x cs:=cs = [.int .i64 x.kind,.int .i64 x.tag,.string x.text,.slice x.kids.a x.kids.n x.kids.c,.slice x.args.a x.args.n x.args.c]
 len h:=by rw [h];rfl
 one h:=by
  obtain rfl:=h
  intro u hu
  simp only [List.mem_cons,List.not_mem_nil,or_false] at hu
  rcases hu with rfl | rfl | rfl | rfl | rfl<;>rfl
 keep _ _ h:=h
 weak _ h:=h
def ZfD (acc:List UInt8):List NodeW->Option (Option (List UInt8)) | []=>some (some acc) | x::xs=>if x.kind=1\/x.kind=3 then (if acc.length+x.text.size<=140737488355328 then ZfD (acc++x.text.data.toList) xs else none) else if x.kind=2 then ZfD acc xs else some none
def Zox:Option (List UInt8)->Value | some l=>.tuple #[.string ⟨l.toArray⟩,.bool true] | none=>.tuple #[.string ⟨#[]⟩,.bool false]
set_option maxRecDepth 100000 in
set_option maxHeartbeats 4000000 in
theorem ZqL (A:Option Addr) (n c:Nat) (xs:List NodeW) (r:Option (List UInt8)) (hr:ZfD [] xs=some r) (w:World) (hS:SlR w A n c xs) :
  Calls Tryz.prog 146 #[.slice A n c] w fun e w'=>e = .returned (Zox r)/\Below w.heap.size w w':=by{
have HN:=Lib.hid hS.1
have hle:=hS.le
go_enter Tryz.func146,Tryz.ntmps146
go_wp2
go_loopw [9] (fun i wr=>∃ (q:Nat) (acc:List UInt8),q<=n/\i = .int .i64 q/\Below w.heap.size w wr/\Lib.IsBuilderF 121 5 w.heap.size w.heap.size (Lib.byteCells acc) wr/\Hid (ZfD acc (xs.drop q)=some r)) (fun i _=>n-(intOf i).toNat)
case atStart=>
 exact ⟨0,[],Nat.zero_le _,rfl,(Below.refl _ w).alloc (Nat.le_refl _) _,Lib.IsBuilderF.of (Lib.fresh_isBuilder 121 5 w),hr⟩
case round=>
 obtain ⟨q,acc,hq,rfl,hbw,hI,hF⟩:=hrel
 have HW:=Lib.hid hbw
 clear hbw
 by_cases hlt:q<n
 obtain ⟨b,off,x,cs,hA,hbl,hx,hd,hR,hc⟩:=(SlR.mono HW.out hS).elem hlt
 obtain rfl:=hA
 have d0:wr.cell? ⟨b,off+q * 5,none⟩=some (.int .i64 x.kind):=by subst hR;exact hc 0 _ rfl
 have d1:wr.cell? ⟨b,off+q * 5+1,none⟩=some (.int .i64 x.tag):=by subst hR;exact hc 1 _ rfl
 have d2:wr.cell? ⟨b,off+q * 5+2,none⟩=some (.string x.text):=by subst hR;exact hc 2 _ rfl
 have d3:wr.cell? ⟨b,off+q * 5+3,none⟩=some (.slice x.kids.a x.kids.n x.kids.c):=by subst hR;exact hc 3 _ rfl
 have d4:wr.cell? ⟨b,off+q * 5+4,none⟩=some (.slice x.args.a x.args.n x.args.c):=by subst hR;exact hc 4 _ rfl
 have HD:=Lib.hid hd
 have HX:=Lib.hid hx
 clear hx hd hR hc
 by_cases h13:x.kind=1\/x.kind=3
 have hfit:acc.length+x.text.size<=140737488355328/\ZfD (acc++x.text.data.toList) (xs.drop (q+1))=some r:=by
  have e:=hF.out
  rw [HD.out] at e
  simp only [ZfD,if_pos h13] at e
  split at e
  exact ⟨‹_›,e⟩
  cases e
 have HI2:∀ o,Lib.IsBuilderF 121 5 w.heap.size w.heap.size (Lib.byteCells acc) (wr.alloc o):=fun o=>hI.alloc o
 rcases h13 with h13 | h13
 ·go_wp2_with (go_at_call 62;refine (ZtX w.heap.size w.heap.size _ x.text _ (HI2 _) (by rw [Lib.byteCells_length];exact hfit.1) (Nat.le_trans HW.out.size (by simp))).mono ?_)
  rintro e W1 ⟨rfl,h1,b1⟩
  go_wp2
  go_roundw
  case rel=>
   refine ⟨q+1,acc++x.text.data.toList,by omega,by go_num,?_,?_,Lib.hid hfit.2⟩
   exact (Below.al HW.out _).trans b1
   rw [Lib.byteCells_append,<- Lib.strCells_eq];exact Or.inr h1
  case measure=>simp [intOf];omega
 ·go_wp2_with (go_at_call 62;refine (ZtX w.heap.size w.heap.size _ x.text _ (HI2 _) (by rw [Lib.byteCells_length];exact hfit.1) (Nat.le_trans HW.out.size (by simp))).mono ?_)
  rintro e W1 ⟨rfl,h1,b1⟩
  go_wp2
  go_roundw
  case rel=>
   refine ⟨q+1,acc++x.text.data.toList,by omega,by go_num,?_,?_,Lib.hid hfit.2⟩
   exact (Below.al HW.out _).trans b1
   rw [Lib.byteCells_append,<- Lib.strCells_eq];exact Or.inr h1
  case measure=>simp [intOf];omega
 by_cases h2:x.kind=2
 ·have hn2:ZfD acc (xs.drop (q+1))=some r:=by
   have e:=hF.out
   rw [HD.out] at e
   simp only [ZfD,if_neg h13,if_pos h2] at e
   exact e
  go_wp2
  go_roundw
  case rel=>exact ⟨q+1,acc,by omega,by go_num,Below.al HW.out _,hI.alloc _,Lib.hid hn2⟩
  case measure=>simp [intOf];omega
 ·have hn2:r=none:=by
   have e:=hF.out
   rw [HD.out] at e
   simp only [ZfD,if_neg h13,if_neg h2] at e
   exact (Option.some.inj e).symm
  subst hn2
  go_wp2
  exact bodyPost_ret (v:=Zox none) (by simp [results,Tryz.results146,go_sem, *];rfl) rfl ⟨rfl,Below.al HW.out _⟩
 ·have hz:r=some acc:=by
   have e:=hF.out
   rw [List.drop_eq_nil_of_le (by rw [<- HN.out];omega)] at e
   exact (Option.some.inj e).symm
  subst hz
  go_wp2_with (go_at_call 63;refine (Tryz.Builder_String_any_f w.heap.size w.heap.size acc _ hI HW.out.size).mono ?_)
  rintro e W1 ⟨rfl,_,b1⟩
  go_wp2
  exact bodyPost_ret (v:=Zox (some acc)) (by simp [results,Tryz.results146,go_sem, *];rfl) rfl ⟨rfl,HW.out.trans b1⟩}
def Zhp (acc:List UInt8):List Node->Option (Option (List UInt8)) | []=>some (some acc) | x::xs=>if x.kind=1\/x.kind=3 then (if acc.length+x.text.size<=140737488355328 then Zhp (acc++x.text.data.toList) xs else none) else if x.kind=2 then Zhp acc xs else some none
theorem Zoy:∀ (xs:List NodeW) (l:List Node) (acc:List UInt8),xs.length=l.length->(∀ (i:Nat) (x:NodeW) (y:Node),xs[i]? = some x->l[i]? = some y->x.kind=y.kind/\x.text=y.text)->ZfD acc xs=Zhp acc l
 | [],[],acc,_,_=>rfl
 | x::xs,y::l,acc,hl,h=>by
   obtain ⟨h1,h2⟩:=h 0 x y rfl rfl
   have ih:=fun acc=>Zoy xs l acc (by simpa using hl) (fun i a b ha hb=>h (i+1) a b ha hb)
   simp only [ZfD,Zhp,h1,h2,ih]
def ZgR:Value->SlW | .slice A n c=>⟨A,n,c⟩ | _=>⟨none,0,0⟩
theorem ZtY {x:Ctx} {els:List (List PV)} {v:Value} (h:Rep x (.sl els) v):v = .slice (ZgR v).a (ZgR v).n (ZgR v).c:=by
 cases h
 rfl
theorem ZmB {x:Ctx} (hflt:∀ b o,x.F b o->b<x.W.heap.size) {L:List Node} {v:Value} (h:Rep x (.sl (L.map Node.cs)) v):∃ A n c xs,v = .slice A n c/\SlR x.W A n c xs/\∀ acc,ZfD acc xs=Zhp acc L:=by{
generalize hels:(L.map Node.cs)=els at h
cases h with
| sl _ A n c k b off f hn hc hm hk hA hcell hh=>
  subst hels
  have hx:∀ (i:Nat) (y:NodeW),(L.mapIdx fun i nd=>(⟨nd.kind,nd.tag,nd.text,ZgR (f i 3),ZgR (f i 4)⟩:NodeW))[i]? = some y->∃ nd,L[i]? = some nd/\y=⟨nd.kind,nd.tag,nd.text,ZgR (f i 3),ZgR (f i 4)⟩:=fun i y hi=>by
   rw [List.getElem?_mapIdx] at hi
   cases hL:L[i]? with
   | none=>rw [hL] at hi;cases hi
   | some nd=>rw [hL] at hi;injection hi with hi;exact ⟨nd,rfl,hi.symm⟩
  refine ⟨A,n,c,L.mapIdx fun i nd=>(⟨nd.kind,nd.tag,nd.text,ZgR (f i 3),ZgR (f i 4)⟩:NodeW),rfl,⟨by simpa using hn,hc,hm,fun h0=>?_⟩,fun acc=>Zoy _ _ _ (by simp) fun i y nd hi hd=>?_⟩
  have hL:0<L.length:=by rw [hn,List.length_map] at h0;exact h0
  have hk5:k=5:=by
   obtain ⟨s,hs⟩:∃ s,L[0]? = some s:=⟨_,List.getElem?_eq_getElem hL⟩
   exact (hk (Node.cs s) (List.mem_map.2 ⟨s,List.mem_of_getElem? hs,rfl⟩)).symm
  subst hk5
  have el:∀ i nd,L[i]? = some nd->(L.map Node.cs)[i]? = some (Node.cs nd):=fun i nd hi=>by rw [List.getElem?_map,hi];rfl
  obtain ⟨s0,hs0⟩:∃ s,L[0]? = some s:=⟨_,List.getElem?_eq_getElem hL⟩
  refine ⟨b,off,fun i=>[f i 0,f i 1,f i 2,f i 3,f i 4],hA h0,trivial,hflt _ _ (hcell 0 0 _ _ (el 0 s0 hs0) rfl).2.1,fun i y hi=>?_⟩
  obtain ⟨nd,hd,rfl⟩:=hx i y hi
  have e:=el i nd hd
  refine ⟨?_,fun j u hj=>?_⟩
  have r0:=hh i 0 _ _ e rfl
  have r1:=hh i 1 _ _ e rfl
  have r2:=hh i 2 _ _ e rfl
  have r3:=ZtY (hh i 3 _ _ e rfl)
  have r4:=ZtY (hh i 4 _ _ e rfl)
  have q0:f i 0 = .int .i64 nd.kind:=by generalize f i 0=u at r0;cases r0;rfl
  have q1:f i 1 = .int .i64 nd.tag:=by generalize f i 1=u at r1;cases r1;rfl
  have q2:f i 2 = .string nd.text:=by generalize f i 2=u at r2;cases r2;rfl
  show [f i 0,f i 1,f i 2,f i 3,f i 4] = [.int .i64 nd.kind,.int .i64 nd.tag,.string nd.text,.slice (ZgR (f i 3)).a (ZgR (f i 3)).n (ZgR (f i 3)).c,.slice (ZgR (f i 4)).a (ZgR (f i 4)).n (ZgR (f i 4)).c]
  rw [q0,q1,q2,<- r3,<- r4]
  match j,hj with
  | 0,hj=>injection hj with hj;subst hj;exact (hcell i 0 _ _ e rfl).2.2
  | 1,hj=>injection hj with hj;subst hj;exact (hcell i 1 _ _ e rfl).2.2
  | 2,hj=>injection hj with hj;subst hj;exact (hcell i 2 _ _ e rfl).2.2
  | 3,hj=>injection hj with hj;subst hj;exact (hcell i 3 _ _ e rfl).2.2
  | 4,hj=>injection hj with hj;subst hj;exact (hcell i 4 _ _ e rfl).2.2
  | j+5,hj=>simp at hj
  obtain ⟨nd',h1,rfl⟩:=hx i y hi
  rw [hd] at h1
  injection h1 with h1
  subst h1
  exact ⟨rfl,rfl⟩}
def Ze5 (l:List Node):Option (ByteArray×Bool):=match Zhp [] l with | some (some t)=>some (⟨t.toArray⟩,true) | some none=>some (⟨#[]⟩,false) | none=>none
theorem ZwK {x:Ctx} (a:ByteArray) (c:Bool):Rep x (.tup [.str a,.bool c]) (.tuple #[.string a,.bool c]):=.tup _ _ rfl fun i p v hp hv=>by
 match i,hp,hv with
 | 0,hp,hv=>injection hp with hp;injection hv with hv;subst hp hv;exact .str _
 | 1,hp,hv=>injection hp with hp;injection hv with hv;subst hp hv;exact .bool _
 | i+2,hp,_=>simp at hp
theorem args1 {x:Ctx} {p:PV} {vs:Array Value} (h:Pre x [p] none vs):∃ v,vs = #[v]/\Rep x p v:=by
 obtain ⟨v,hv⟩:∃ v,vs = #[v]:=Array.size_eq_one_iff.1 h.size.symm
 exact ⟨v,hv,h.rep 0 _ _ rfl (by rw [hv];rfl)⟩
theorem ZmC (l:List Node) (r:ByteArray×Bool) (h:Ze5 l=some r):Zg Tryz.prog 146 [.sl (List.map Node.cs l)] (.tup [.str r.1,.bool r.2]):=by{
obtain ⟨o,ho,hv⟩:∃ o,Zhp [] l=some o/\Zox o = .tuple #[.string r.1,.bool r.2]:=by
 unfold Ze5 at h
 split at h
 cases h;exact ⟨_,‹_›,rfl⟩
 cases h;exact ⟨_,‹_›,rfl⟩
 cases h
exact Zds (by kernel_rfl) rfl (fun x=>ZwK _ _) fun x vs hp _=>by
 obtain ⟨v,rfl,h1⟩:=args1 hp
 obtain ⟨A,n,c,xs,rfl,hS,he⟩:=ZmB hp.flt h1
 rw [<- hv]
 exact ZqL A n c xs o ((he []).trans ho) x.W hS}
end Go.Proofs.YtpffimahajgiaaaGreatDoor
set_option linter.unusedVariables false
set_option maxHeartbeats 4000000
set_option maxRecDepth 100000
namespace Go.Proofs.YtpffimahajgiaaaGreatDoor
open VL
def Zbx (p0:List Node):Option (Title×Bool):=(Ze5 p0).bind fun r1=>(ZcF r1.1).bind fun r2=>letk (fun (x5:Bool)=>if x5 then (some ((⟨0,(⟨#[]⟩:ByteArray)⟩:Title),false):Option (Title×Bool)) else (Zdk r2).bind fun r6=>if (!decide (r6.2=0)) then (some ((⟨0,(⟨#[]⟩:ByteArray)⟩:Title),false):Option (Title×Bool)) else letk (fun (x8:Bool)=>letk (fun (x9:Int)=>(some ((⟨x9,r6.1.name⟩:Title),true):Option (Title×Bool))) fun k3=>if x8 then k3 3 else k3 r6.1.space) fun k2=>if (decide (r6.1.space=0)) then (ZM r2 (⟨#[58]⟩:ByteArray)).bind fun r10=>k2 (!r10) else k2 false) fun k1=>if (!r1.2) then k1 true else (ZM r2 (⟨#[35]⟩:ByteArray)).bind fun r11=>if r11 then k1 true else (ZM r2 (⟨#[47]⟩:ByteArray)).bind fun r12=>k1 r12
theorem ZiJ (p0:List Node) (r:Title×Bool) (h:Zbx p0=some r):Zg Tryz.prog 90 [.sl (List.map Node.cs p0)] (.tup [r.1.pv,.bool r.2]):=by{
refine cF (fun r=>.tup [r.1.pv,.bool r.2]) h mix Tryz.func90 fun r h=>?_
unfold Zbx at h
refine Zn ?_
refine rg ?_
refine rg ?_
refine aC h (ZmC _) fun r1 h=>?_
refine rg ?_
refine aC h (ZgJ _) fun r2 h=>?_
refine jL h (fun x5=>mkS [(2,.ptr 2 (1,2) 0),(6,.str r2),(25,.bool x5)] [(2,some ((1,2),.box [.int .i64 0,.str (⟨#[]⟩:ByteArray)]))] 2) (fun k1 h=>?_) fun x5 h=>?_
refine rg ?_
refine kS 18 h rfl (fun h=>?_) fun h=>?_
iterate 4 refine ZE rfl (Zn ?_)
exact jn true h (sR [(2,1,0)])
refine aC h (Zau _ _) fun r11 h=>?_
refine kS 22 h rfl (fun h=>?_) fun h=>?_
iterate 2 refine ZE rfl (Zn ?_)
exact jn true h (sR [(2,1,0)])
refine aC h (Zau _ _) fun r12 h=>?_
exact jn r12 h (sR [(2,1,0)])
refine cS h rfl (fun h=>?_) fun h=>?_
refine rg ?_
cases h
exact rQ
refine rg ?_
refine aC h (Zf9 _) fun r6 h=>?_
refine rg ?_
refine cS h rfl (fun h=>?_) fun h=>?_
refine rg ?_
cases h
exact rQ
refine jL h (fun x8=>mkS [(2,.ptr 2 (1,2) 0),(7,.ptr 7 (1,7) 0),(42,.bool x8)] [(2,some ((1,2),.box [.int .i64 0,.str (⟨#[]⟩:ByteArray)])),(7,some ((1,7),.box (Title.cs r6.1)))] 2) (fun k2 h=>?_) fun x8 h=>?_
refine rg ?_
refine kS 38 h rfl (fun h=>?_) fun h=>?_
refine aC h (Zau _ _) fun r10 h=>?_
exact jn (!r10) h (sR [(2,1,2),(7,2,5)])
iterate 3 refine ZE rfl (Zn ?_)
exact jn false h (sR [(2,1,2),(7,2,5)])
refine jL h (fun x9=>mkS [(2,.ptr 2 (1,2) 0),(7,.ptr 7 (1,7) 0)] [(2,some ((1,2),.box [.int .i64 0,.str (⟨#[]⟩:ByteArray)])),(7,some ((1,7),.box [.int .i64 x9,.str r6.1.name]))] 2) (fun k3 h=>?_) fun x9 h=>?_
refine cS h rfl (fun h=>?_) fun h=>?_
refine rg ?_
exact jn 3 h (sR [(2,1,2),(7,1,7)])
exact jn r6.1.space h (sR [(2,1,2),(7,1,7)])
refine rg ?_
cases h
exact rQ}
def ZaP:Nat->Finder->(List Node)->Option Finder | 0,_,_=>none | mF+1,p0,p1=>ZaF Zcp (fun f7 ((x13,x14,x15):Int×(List Link)×(List Memb))=>if (decide (x13<(p1.length:Int))) then letk (fun (x33:List Link) (x34:List Memb)=>f7 ((w64 (x13+1)),x33,x34)) fun k9=>(atI p1 x13).bind fun e35=>if (decide (e35.kind=1)) then (ZaO (⟨x14,x15⟩:Finder) e35.text).bind fun r36=>k9 r36.links r36.members else letk (fun (x37:Bool)=>if x37 then (Zbq e35.kids).bind fun l38=>(ZaP mF (⟨x14,x15⟩:Finder) l38).bind fun r39=>k9 r39.links r39.members else k9 x14 x15) fun k10=>if (decide (e35.kind=6)) then k10 (!decide (e35.tag=2)) else k10 false else (some (⟨x14,x15⟩:Finder):Option Finder)) (0,p0.links,p0.members)
theorem Zhg (mF:Nat):∀ (p0:Finder) (p1:List Node) (r:Finder),ZaP mF p0 p1=some r->ContractP Tryz.prog 42 [.ptr 0 (0,0) 0,.sl (List.map Node.cs p1)] 0 [.row 102 3 false (List.map Link.cs p0.links),.row 56 3 false (List.map Memb.cs p0.members)] (.tup []) [.row 102 3 false (List.map Link.cs r.links),.row 56 3 false (List.map Memb.cs r.members)]:=by{
induction mF with
| zero=>intro p0 p1 r h;cases h
| succ mF ihF=>
intro p0 p1 r h
refine ZgW (R:=fun r=>.tup []) (O:=fun r=>[.row 102 3 false (List.map Link.cs r.links),.row 56 3 false (List.map Memb.cs r.members)]) h mix Tryz.func42 (by kernel_rfl) rfl (by kernel_rfl) rfl fun r h=>?_
simp only [ZaP] at h
refine Zn ?_
refine rg ?_
refine lM Node.cs p1 ?_
refine bl ?_
refine ZB h fun f7 mf7 hf7 h=>?_
refine Zv (α:=Nat×(Int×(List Link)×(List Memb))) (fun a _=>mkS [(0,.ptr 0 (0,0) 0),(6,.sl (List.map Node.cs p1)),(7,.int .i64 (p1.length:Int)),(8,.int .i64 a.2.1)] [(0,some ((0,0),.box [.row 1000 (1,1000),.row 1001 (1,1001)])),(1000,some ((1,1000),.row 102 3 false (List.map Link.cs a.2.2.1))),(1001,some ((1,1001),.row 56 3 false (List.map Memb.cs a.2.2.2)))] 2) (fun a=>ZaF a.1 f7 a.2=some r) (fun a=>a.1) (mf7,0,p0.links,p0.members) 2 h (sR [(1000,0,1000),(1001,0,1001)]) (fun a _ h=>?_)
obtain ⟨mf7,x13,x14,x15⟩:=a
obtain ⟨mf7,rfl,h⟩:=ZC hf7 h
dsimp only at h ⊢
refine Zn ?_
refine rg ?_
refine cS h rfl (fun h=>?_) fun h=>?_
refine ZbG h fun k9 hk9 h=>?_
refine Zbv (α:=(List Link)×(List Memb)) (fun a _=>mkS [(0,.ptr 0 (0,0) 0),(6,.sl (List.map Node.cs p1)),(7,.int .i64 (p1.length:Int)),(8,.int .i64 x13)] [(0,some ((0,0),.box [.row 1000 (1,1000),.row 1001 (1,1001)])),(1000,some ((1,1000),.row 102 3 false (List.map Link.cs a.1))),(1001,some ((1,1001),.row 56 3 false (List.map Memb.cs a.2)))] 2) (fun a=>k9 a.1 a.2=some r) (Zn ?_) (fun a _ h=>?_)
refine bl ?_
refine rg ?_
refine aI Node.cs h fun e35 h=>?_
refine bl ?_
refine rg ?_
refine cS h rfl (fun h=>?_) fun h=>?_
refine rg ?_
obtain ⟨r36,h22,h⟩:=bnd h
refine ZgT (ZfK _ _ _ h22) rfl rfl rfl rfl rfl rfl rfl rfl (Zn ?_)
exact jn (r36.links,r36.members) h (sR [(1000,5,1000003),(1001,5,2000003)])
refine jL h (fun x37=>mkS [(0,.ptr 0 (0,0) 0),(5,.ptr 5 (1,5) 0),(6,.sl (List.map Node.cs p1)),(7,.int .i64 (p1.length:Int)),(8,.int .i64 x13),(20,.bool x37)] [(0,some ((0,0),.box [.row 1000 (1,1000),.row 1001 (1,1001)])),(5,some ((1,5),.box [.int .i64 e35.kind,.int .i64 e35.tag,.str e35.text,.sl e35.kids,.sl e35.args])),(1000,some ((1,1000),.row 102 3 false (List.map Link.cs x14))),(1001,some ((1,1001),.row 56 3 false (List.map Memb.cs x15)))] 2) (fun k10 h=>?_) fun x37 h=>?_
refine rg ?_
refine kS 24 h rfl (fun h=>?_) fun h=>?_
exact jn (!decide (e35.tag=2)) h (sR [(5,3,2),(1000,1,1000),(1001,1,1001)])
iterate 3 refine ZE rfl (Zn ?_)
exact jn false h (sR [(5,3,2),(1000,1,1000),(1001,1,1001)])
refine cS h rfl (fun h=>?_) fun h=>?_
refine rg ?_
obtain ⟨l38,h23,h⟩:=bnd h
refine ZvD 31 (Zd7 h23) rfl (Zn ?_)
obtain ⟨r39,h24,h⟩:=bnd h
refine ZgT (ihF _ _ _ h24) rfl rfl rfl rfl rfl rfl rfl rfl (Zn ?_)
exact jn (r39.links,r39.members) h (sR [(1000,2,1000003),(1001,2,2000003)])
exact jn (x14,x15) h (sR [(1000,1,1000),(1001,1,1001)])
obtain ⟨x33,x34⟩:=a
subst hk9
dsimp only at h ⊢
refine Zn ?_
refine rg ?_
exact rn (mf7,(w64 (x13+1)),x33,x34) h (sR [(1000,1,1000),(1001,1,1001)])
cases h
exact ZmP rfl rfl rfl rfl rfl rfl}
def Zu:Nat->Finder->(List Node)->Option Finder | 0,_,_=>none | mF+1,p0,p1=>ZaF Zcp (fun f15 ((x93,x94,x95):Int×(List Link)×(List Memb))=>if (decide (x93<(p1.length:Int))) then letk (fun (x233:List Link) (x234:List Memb)=>f15 ((w64 (x93+1)),x233,x234)) fun k19=>(atI p1 x93).bind fun e235=>letk (fun (x236:Bool)=>if x236 then k19 x94 x95 else letk (fun (x240:List Link)=>(Zbq e235.kids).bind fun l241=>(Zu mF (⟨x240,x95⟩:Finder) l241).bind fun r242=>(Zm3 e235.args).bind fun l243=>ZaF Zcp (fun f22 ((x254,x255,x256):Int×(List Link)×(List Memb))=>if (decide (x254<(l243.length:Int))) then (atI l243 x254).bind fun e272=>(Zbq e272.name).bind fun l273=>(Zu mF (⟨x255,x256⟩:Finder) l273).bind fun r274=>(Zbq e272.value).bind fun l275=>(Zu mF r274 l275).bind fun r276=>f22 ((w64 (x254+1)),r276.links,r276.members) else k19 x255 x256) (0,r242.links,r242.members)) fun k21=>if (decide (e235.kind=4)) then (Zbq e235.kids).bind fun l277=>(Zbx l277).bind fun r278=>if r278.2 then (ZeI 32 x94 [(⟨2,r278.1⟩:Link)]).bind fun l279=>k21 l279 else k21 x94 else k21 x94) fun k20=>if (decide (e235.kind=6)) then k20 (decide (e235.tag=2)) else k20 false else (some (⟨x94,x95⟩:Finder):Option Finder)) (0,p0.links,p0.members)
theorem Ze0 (mF:Nat):∀ (p0:Finder) (p1:List Node) (r:Finder),Zu mF p0 p1=some r->ContractP Tryz.prog 43 [.ptr 0 (0,0) 0,.sl (List.map Node.cs p1)] 0 [.row 102 3 false (List.map Link.cs p0.links),.row 56 3 false (List.map Memb.cs p0.members)] (.tup []) [.row 102 3 false (List.map Link.cs r.links),.row 56 3 false (List.map Memb.cs r.members)]:=by{
induction mF with
| zero=>intro p0 p1 r h;cases h
| succ mF ihF=>
intro p0 p1 r h
refine ZgW (R:=fun r=>.tup []) (O:=fun r=>[.row 102 3 false (List.map Link.cs r.links),.row 56 3 false (List.map Memb.cs r.members)]) h mix Tryz.func43 (by kernel_rfl) rfl (by kernel_rfl) rfl fun r h=>?_
simp only [Zu] at h
refine Zn ?_
refine rg ?_
refine lM Node.cs p1 ?_
refine bl ?_
refine ZB h fun f15 mf15 hf15 h=>?_
refine Zv (α:=Nat×(Int×(List Link)×(List Memb))) (fun a _=>mkS [(0,.ptr 0 (0,0) 0),(10,.sl (List.map Node.cs p1)),(11,.int .i64 (p1.length:Int)),(12,.int .i64 a.2.1)] [(0,some ((0,0),.box [.row 1000 (1,1000),.row 1001 (1,1001)])),(1000,some ((1,1000),.row 102 3 false (List.map Link.cs a.2.2.1))),(1001,some ((1,1001),.row 56 3 false (List.map Memb.cs a.2.2.2)))] 2) (fun a=>ZaF a.1 f15 a.2=some r) (fun a=>a.1) (mf15,0,p0.links,p0.members) 2 h (sR [(1000,0,1000),(1001,0,1001)]) (fun a _ h=>?_)
obtain ⟨mf15,x93,x94,x95⟩:=a
obtain ⟨mf15,rfl,h⟩:=ZC hf15 h
dsimp only at h ⊢
refine Zn ?_
refine rg ?_
refine cS h rfl (fun h=>?_) fun h=>?_
refine ZbG h fun k19 hk19 h=>?_
refine Zbv (α:=(List Link)×(List Memb)) (fun a _=>mkS [(0,.ptr 0 (0,0) 0),(10,.sl (List.map Node.cs p1)),(11,.int .i64 (p1.length:Int)),(12,.int .i64 x93)] [(0,some ((0,0),.box [.row 1000 (1,1000),.row 1001 (1,1001)])),(1000,some ((1,1000),.row 102 3 false (List.map Link.cs a.1))),(1001,some ((1,1001),.row 56 3 false (List.map Memb.cs a.2)))] 2) (fun a=>k19 a.1 a.2=some r) (Zn ?_) (fun a _ h=>?_)
refine bl ?_
refine rg ?_
refine aI Node.cs h fun e235 h=>?_
refine jL h (fun x236=>mkS [(0,.ptr 0 (0,0) 0),(5,.ptr 5 (1,5) 0),(10,.sl (List.map Node.cs p1)),(11,.int .i64 (p1.length:Int)),(12,.int .i64 x93),(23,.bool x236)] [(0,some ((0,0),.box [.row 1000 (1,1000),.row 1001 (1,1001)])),(5,some ((1,5),.box [.int .i64 e235.kind,.int .i64 e235.tag,.str e235.text,.sl e235.kids,.sl e235.args])),(1000,some ((1,1000),.row 102 3 false (List.map Link.cs x94))),(1001,some ((1,1001),.row 56 3 false (List.map Memb.cs x95)))] 2) (fun k20 h=>?_) fun x236 h=>?_
refine rg ?_
refine kS 19 h rfl (fun h=>?_) fun h=>?_
exact jn (decide (e235.tag=2)) h (sR [(5,3,2),(1000,1,1000),(1001,1,1001)])
iterate 3 refine ZE rfl (Zn ?_)
exact jn false h (sR [(5,3,2),(1000,1,1000),(1001,1,1001)])
refine cS h rfl (fun h=>?_) fun h=>?_
exact jn (x94,x95) h (sR [(1000,1,1000),(1001,1,1001)])
refine rg ?_
refine jL h (fun x240=>mkS [(0,.ptr 0 (0,0) 0),(5,.ptr 5 (1,5) 0),(10,.sl (List.map Node.cs p1)),(11,.int .i64 (p1.length:Int)),(12,.int .i64 x93)] [(0,some ((0,0),.box [.row 1000 (1,1000),.row 1001 (1,1001)])),(5,some ((1,5),.box [.int .i64 e235.kind,.int .i64 e235.tag,.str e235.text,.sl e235.kids,.sl e235.args])),(1000,some ((1,1000),.row 102 3 false (List.map Link.cs x240))),(1001,some ((1,1001),.row 56 3 false (List.map Memb.cs x95)))] 2) (fun k21 h=>?_) fun x240 h=>?_
refine cS h rfl (fun h=>?_) fun h=>?_
refine rg ?_
obtain ⟨l277,h238,h⟩:=bnd h
refine ZvD 29 (Zd7 h238) rfl (Zn ?_)
refine aC h (ZiJ _) fun r278 h=>?_
refine rg ?_
refine cS h rfl (fun h=>?_) fun h=>?_
refine rg ?_
refine ZbS (M:=([(⟨2,r278.1⟩:Link)]:List Link)) (f:=Link.cs) rfl rfl rfl rfl (Nat.le_of_ble_eq_true rfl) rfl (Zn ?_)
refine pR Link.cs h fun l279 h=>?_
exact jn l279 h (sR [(5,1,5),(1000,5,8),(1001,1,1001)])
exact jn x94 h (sR [(5,1,5),(1000,1,1000),(1001,1,1001)])
exact jn x94 h (sR [(5,1,5),(1000,1,1000),(1001,1,1001)])
refine rg ?_
obtain ⟨l241,h205,h⟩:=bnd h
refine ZvD 47 (Zd7 h205) rfl (Zn ?_)
obtain ⟨r242,h206,h⟩:=bnd h
refine ZgT (ihF _ _ _ h206) rfl rfl rfl rfl rfl rfl rfl rfl (Zn ?_)
refine rg ?_
obtain ⟨l243,h207,h⟩:=bnd h
refine ZvD 50 (Zru h207) rfl (Zn ?_)
refine lM Arg.cs l243 ?_
refine bl ?_
refine ZB h fun f22 mf22 hf22 h=>?_
refine Zv (α:=Nat×(Int×(List Link)×(List Memb))) (fun a _=>mkS [(0,.ptr 0 (0,0) 0),(10,.sl (List.map Node.cs p1)),(11,.int .i64 (p1.length:Int)),(12,.int .i64 x93),(50,.sl (List.map Arg.cs l243)),(51,.int .i64 (l243.length:Int)),(52,.int .i64 a.2.1)] [(0,some ((0,0),.box [.row 1000 (1,1000),.row 1001 (1,1001)])),(1000,some ((1,1000),.row 102 3 false (List.map Link.cs a.2.2.1))),(1001,some ((1,1001),.row 56 3 false (List.map Memb.cs a.2.2.2)))] 2) (fun a=>ZaF a.1 f22 a.2=some r) (fun a=>a.1) (mf22,0,r242.links,r242.members) 2 h (sR [(1000,2,1000003),(1001,2,2000003)]) (fun a _ h=>?_)
obtain ⟨mf22,x254,x255,x256⟩:=a
obtain ⟨mf22,rfl,h⟩:=ZC hf22 h
dsimp only at h ⊢
refine Zn ?_
refine rg ?_
refine cS h rfl (fun h=>?_) fun h=>?_
refine bl ?_
refine rg ?_
refine aI Arg.cs h fun e272 h=>?_
refine rg ?_
obtain ⟨l273,h234,h⟩:=bnd h
refine ZvD 58 (Zd7 h234) rfl (Zn ?_)
obtain ⟨r274,h235,h⟩:=bnd h
refine ZgT (ihF _ _ _ h235) rfl rfl rfl rfl rfl rfl rfl rfl (Zn ?_)
refine rg ?_
obtain ⟨l275,h236,h⟩:=bnd h
refine ZvD 62 (Zd7 h236) rfl (Zn ?_)
obtain ⟨r276,h237,h⟩:=bnd h
refine ZgT (ihF _ _ _ h237) rfl rfl rfl rfl rfl rfl rfl rfl (Zn ?_)
refine rg ?_
exact rn (mf22,(w64 (x254+1)),r276.links,r276.members) h (sR [(1000,5,1000003),(1001,5,2000003)])
exact jn (x255,x256) h (sR [(1000,1,1000),(1001,1,1001)])
obtain ⟨x233,x234⟩:=a
subst hk19
dsimp only at h ⊢
refine Zn ?_
refine rg ?_
exact rn (mf15,(w64 (x93+1)),x233,x234) h (sR [(1000,1,1000),(1001,1,1001)])
cases h
exact ZmP rfl rfl rfl rfl rfl rfl}
end Go.Proofs.YtpffimahajgiaaaGreatDoor

namespace Go.Proofs.YtpffimahajgiaaaGreatDoor
open VL Go.RowKit
def strings_Compare (a b:ByteArray):Option Int:=some (Lib.compareBytes a.data.toList b.data.toList)
theorem Zh8 (a b:ByteArray) (r:Int) (h:strings_Compare a b=some r):Zg Tryz.prog 99 [.str a,.str b] (.int .i64 r):=by
 unfold strings_Compare at h
 cases h
 exact Zav (vals:=[.string a,.string b]) (by kernel_rfl) rfl rfl (fun x=>.int _ _) fun w hw=>(Zk2 a b w).mono fun e w' ⟨h1,h2⟩=>⟨h1,by rw [<- h2];exact Below.refl _ _⟩
end Go.Proofs.YtpffimahajgiaaaGreatDoor
namespace Go.Proofs.YtpffimahajgiaaaGreatDoor
open VL
def ZcL (p0:Int):Option Bool:=(some (!decide (p0=p0)):Option Bool)
theorem ZfV (p0:Int) (r:Bool) (h:ZcL p0=some r):Zg Tryz.prog 98 [.int .i64 p0] (.bool r):=by{
refine cF (fun r=>.bool r) h mix Tryz.func98 fun r h=>?_
unfold ZcL at h
refine Zn ?_
refine rg ?_
refine rg ?_
cases h
exact rQ}
def cmp_Compare_int (p0:Int) (p1:Int):Option Int:=(ZcL p0).bind fun r1=>(ZcL p1).bind fun r2=>if r1 then if r2 then (some 0:Option Int) else (some (-1):Option Int) else if r2 then (some 1:Option Int) else if (decide (p0<p1)) then (some (-1):Option Int) else if (decide (p1<p0)) then (some 1:Option Int) else (some 0:Option Int)
theorem Zc7 (p0:Int) (p1:Int) (r:Int) (h:cmp_Compare_int p0 p1=some r):Zg Tryz.prog 48 [.int .i64 p0,.int .i64 p1] (.int .i64 r):=by{
refine cF (fun r=>.int .i64 r) h mix Tryz.func48 fun r h=>?_
unfold cmp_Compare_int at h
refine Zn ?_
refine rg ?_
refine rg ?_
refine aC h (ZfV _) fun r1 h=>?_
refine rg ?_
refine aC h (ZfV _) fun r2 h=>?_
refine rg ?_
refine cS h rfl (fun h=>?_) fun h=>?_
refine rg ?_
refine cS h rfl (fun h=>?_) fun h=>?_
refine rg ?_
cases h
exact rQ
refine rg ?_
cases h
exact rQ
refine rg ?_
refine cS h rfl (fun h=>?_) fun h=>?_
refine rg ?_
cases h
exact rQ
refine rg ?_
refine cS h rfl (fun h=>?_) fun h=>?_
refine rg ?_
cases h
exact rQ
refine rg ?_
refine cS h rfl (fun h=>?_) fun h=>?_
refine rg ?_
cases h
exact rQ
refine rg ?_
cases h
exact rQ}
def Zc8 (p0:List Int):Option Int:=ZaF Zcp (fun f2 (x10:Int)=>if (decide (x10<(p0.length:Int))) then (atI p0 x10).bind fun e14=>if (!decide (e14=0)) then some e14 else f2 (w64 (x10+1)) else (some 0:Option Int)) 0
theorem Zir (p0:List Int) (r:Int) (h:Zc8 p0=some r):Zg Tryz.prog 47 [.sl (List.map csI p0)] (.int .i64 r):=by{
refine cF (fun r=>.int .i64 r) h mix Tryz.func47 fun r h=>?_
unfold Zc8 at h
refine Zn ?_
refine rg ?_
refine rg ?_
refine rg ?_
refine lM csI p0 ?_
refine bl ?_
refine ZB h fun f2 mf2 hf2 h=>?_
refine Zv (α:=Nat×Int) (fun a _=>mkS [(3,.int .i64 0),(6,.sl (List.map csI p0)),(7,.int .i64 (p0.length:Int)),(8,.int .i64 a.2)] [] 2) (fun a=>ZaF a.1 f2 a.2=some r) (fun a=>a.1) (mf2,0) 2 h (sR []) (fun a _ h=>?_)
obtain ⟨mf2,x10⟩:=a
obtain ⟨mf2,rfl,h⟩:=ZC hf2 h
dsimp only at h ⊢
refine Zn ?_
refine rg ?_
refine cS h rfl (fun h=>?_) fun h=>?_
refine bl ?_
refine rg ?_
refine aI csI h fun e14 h=>?_
refine rg ?_
refine cS h rfl (fun h=>?_) fun h=>?_
refine rg ?_
cases h
exact rQ
refine rg ?_
exact rn (mf2,(w64 (x10+1))) h (sR [])
refine rg ?_
cases h
exact rQ}
def ZbQ (p0:Title) (p1:Title):Option Int:=(cmp_Compare_int p0.space p1.space).bind fun r1=>(strings_Compare p0.name p1.name).bind fun r2=>(Zc8 [r1,r2]).bind fun r3=>some r3
theorem Zef (p0:Title) (p1:Title) (r:Int) (h:ZbQ p0 p1=some r):Zg Tryz.prog 49 [p0.pv,p1.pv] (.int .i64 r):=by{
refine cF (fun r=>.int .i64 r) h mix Tryz.func49 fun r h=>?_
unfold ZbQ at h
refine Zn ?_
refine rg ?_
refine rg ?_
refine aC h (Zc7 _ _) fun r1 h=>?_
refine aC h (Zh8 _ _) fun r2 h=>?_
refine bM csI ([r1,r2]:List Int) ?_
refine aL h (Zir _) fun r3 h=>?_
cases h
exact rQ}
def Zb5 (p0:Memb) (p1:Memb):Option Int:=(ZbQ p0.category p1.category).bind fun r1=>some r1
theorem ZdU (p0:Memb) (p1:Memb) (r:Int) (h:Zb5 p0 p1=some r):Zg Tryz.prog 51 [p0.pv,p1.pv] (.int .i64 r):=by{
refine cF (fun r=>.int .i64 r) h mix Tryz.func51 fun r h=>?_
unfold Zb5 at h
refine Zn ?_
refine rg ?_
refine rg ?_
refine aC h (Zef _ _) fun r1 h=>?_
cases h
exact rQ}
def Zeg (p0:Memb) (p1:Memb):Option Bool:=(some (decide (p0.category=p1.category)):Option Bool)
theorem Zhh (p0:Memb) (p1:Memb) (r:Bool) (h:Zeg p0 p1=some r):Zg Tryz.prog 53 [p0.pv,p1.pv] (.bool r):=by{
refine cF (fun r=>.bool r) h mix Tryz.func53 fun r h=>?_
unfold Zeg at h
refine Zn ?_
refine rg ?_
refine rg ?_
refine ZiN (.inl rfl) rfl rfl rfl rfl rfl (fun W=>Zhi p0.category p1.category W) (Zn ?_)
cases h
exact rQ}
end Go.Proofs.YtpffimahajgiaaaGreatDoor
namespace Go.Proofs.YtpffimahajgiaaaGreatDoor
open Go.RowKit
theorem Zvb (a b:Link) (W:World):(binOp .eql 102 (.agg #[.int .i64 a.kind,.int .i64 a.title.space,.string a.title.name]) (.agg #[.int .i64 b.kind,.int .i64 b.title.space,.string b.title.name])).run Tryz.prog W = .ok (.bool (decide (a=b))) W:=by{
have e:(if a.kind=b.kind then if a.title.space=b.title.space then if a.title.name.toList=b.title.name.toList then true else false else false else false)=(decide (a=b)):=by
 obtain ⟨a1,⟨a2,a3⟩⟩:=a
 obtain ⟨b1,⟨b2,b3⟩⟩:=b
 simp only [Link.mk.injEq,Title.mk.injEq,Zcm]
 (repeat' split)<;>simp_all
rw [<- e]
go_simp
(repeat' split)<;>simp_all}
theorem Zvc (a b:Link) (W:World):(binOp .neq 102 (.agg #[.int .i64 a.kind,.int .i64 a.title.space,.string a.title.name]) (.agg #[.int .i64 b.kind,.int .i64 b.title.space,.string b.title.name])).run Tryz.prog W = .ok (.bool (!decide (a=b))) W:=by{
have e:(if a.kind=b.kind then if a.title.space=b.title.space then if a.title.name.toList=b.title.name.toList then false else true else true else true)=(!decide (a=b)):=by
 obtain ⟨a1,⟨a2,a3⟩⟩:=a
 obtain ⟨b1,⟨b2,b3⟩⟩:=b
 simp only [Link.mk.injEq,Title.mk.injEq,Zcm]
 (repeat' split)<;>simp_all
rw [<- e]
go_simp
(repeat' split)<;>simp_all}
theorem Zvd (a b:Memb) (W:World):(binOp .neq 56 (.agg #[.int .i64 a.category.space,.string a.category.name,.string a.sort]) (.agg #[.int .i64 b.category.space,.string b.category.name,.string b.sort])).run Tryz.prog W = .ok (.bool (!decide (a=b))) W:=by{
have e:(if a.category.space=b.category.space then if a.category.name.toList=b.category.name.toList then if a.sort.toList=b.sort.toList then false else true else true else true)=(!decide (a=b)):=by
 obtain ⟨⟨a1,a2⟩,a3⟩:=a
 obtain ⟨⟨b1,b2⟩,b3⟩:=b
 simp only [Memb.mk.injEq,Title.mk.injEq,Zcm]
 (repeat' split)<;>simp_all
rw [<- e]
go_simp
(repeat' split)<;>simp_all}
end Go.Proofs.YtpffimahajgiaaaGreatDoor
namespace Go.Proofs.YtpffimahajgiaaaGreatDoor
namespace VL
open Go.RowKit Go.Sort
theorem Zji {P:Program} [WInv P] {f g:FuncId} {E k:Nat} {els els':List (List PV)} (hg:isGo P f=true) (len:∀ e ∈ els',e.length=k) (pure:∀ e ∈ els',∀ p ∈ e,p.pure=true) (plain:(Zbz els.flatten).isSome=true)
  (calls:∀ (W:World) (v:Value) (vs:List Value),W.ownsRow 0 E k v els.length vs->Zbz els.flatten=some vs->Calls P f #[v,.func (.func g) #[] #[]] W fun e W'=>
   ∃ vs',e = .returned (.tuple #[])/\Zbz els'.flatten=some vs'/\W'.ownsRow 0 E k v els'.length vs'/\Gr (fun b=>blk v=some b) W W'):ContractR P f [.fn g []] E k els (.tup []) els':=by{
refine ⟨hg,fun x vs hpre hinv=>?_⟩
have hsz:2=vs.size:=hpre.size
obtain ⟨v,u,rfl⟩:∃ v u,vs = #[v,u]:=by
 obtain ⟨l⟩:=vs
 match l,hsz with
 | [v,u],_=>exact ⟨v,u,rfl⟩
have r0:=hpre.rep 0 _ v rfl rfl
have r1:=hpre.rep 1 _ u rfl rfl
obtain ⟨hG,hO⟩:=hpre.ob
obtain ⟨h1,h2,ws,h3,h4,h5⟩:=hO
have hρ:x.ρ (0,0)=v:=by cases r0 with | row _ _ A n c _ hvv=>exact hvv
obtain rfl:u = .func (.func g) #[] #[]:=by
 cases r1 with
 | fn _ _ cs hl _=>
   have:cs = #[]:=Array.eq_empty_of_size_eq_zero hl.symm
   rw [this]
rw [hρ] at h3
obtain ⟨vs0,hp0⟩:=Option.isSome_iff_exists.1 plain
have hvs:ws=vs0:=ZhK _ hp0 ws (by rw [Zan els h1];exact h3.1.symm) h4
rw [<- hvs] at hp0
refine (calls x.W v ws h3 hp0).mono ?_
rintro e' W' ⟨vs',rfl,hp',hown',hgr⟩
have hnF:∀ b o,x.F b o->¬ blk v=some b:=fun b o hF hb=>by
 have:=((h5 b (by rw [hρ];exact hb)).2 o hF).1
 cases this
have hD:∀ b,¬ Dr x b->¬ blk v=some b:=fun b hb e=>hb (by unfold Dr;rw [hρ];exact e)
refine ⟨⟨x.G,x.F,W',x.ρ⟩,.tuple #[],rfl,rfl,⟨⟨fun _ h=>⟨h,rfl⟩,fun _ _ h=>h,fun b o w hF hw=>(World.cell?_of_block (hgr.block b (hpre.flt b o hF) (hnF b o hF))).trans hw⟩,⟨hgr.os,hgr.tape,hgr.output,hgr.size,fun b hb hn=>hgr.block b hb (hD b hn)⟩,fun _ _ h=>.inl h,fun b o hb=>Nat.lt_of_lt_of_le (hpre.flt b o hb) hgr.size,.tup [] #[] rfl (fun i p v hp=>by simp at hp),⟨len,pure,vs',?_,fun m p w hm hw=>?_,fun b hb=>⟨(h5 b hb).1,fun o ho=>absurd ((h5 b hb).2 o ho).1 (by simp)⟩⟩⟩⟩
show W'.ownsRow 0 E k (x.ρ (0,0)) els'.length vs'
rw [hρ]
exact hown'
obtain ⟨w2,h6,h7⟩:=Zgf hp' hm
rw [hw] at h6
injection h6 with h6
subst h6
rw [<- h7]
exact Zf6 _ w}
section
variable {α:Type} (le:α->α->Bool)
def ZiG (x:α):List α->List α | []=>[x] | y::l=>if le x y=true then x::y::l else y::ZiG x l
def Zar:List α->List α | []=>[] | x::l=>ZiG le x (Zar l)
theorem Zjj (x:α):∀ l:List α,(ZiG le x l).Perm (x::l)
 | []=>.refl _
 | y::l=>by
   unfold ZiG
   split
   exact .refl _
   exact ((Zjj x l).cons y).trans (.swap x y l)
theorem Zfl:∀ l:List α,(Zar le l).Perm l
 | []=>.refl _
 | x::l=>(Zjj le x _).trans ((Zfl l).cons x)
variable {le}
theorem Zp5 (ht:∀ a b c,le a b=true->le b c=true->le a c=true) (hl:∀ a b,(le a b||le b a)=true) (x:α):∀ l:List α,l.Pairwise (fun a b=>le a b=true)->(ZiG le x l).Pairwise fun a b=>le a b=true
 | [],_=>by simp [ZiG]
 | y::l,h=>by
   unfold ZiG
   have hy:=List.pairwise_cons.1 h
   split
   rename_i hx
   exact List.pairwise_cons.2 ⟨fun z hz=>by
    rcases List.mem_cons.1 hz with rfl | hz
    exact hx
    exact ht _ _ _ hx (hy.1 z hz),h⟩
   rename_i hx
   refine List.pairwise_cons.2 ⟨fun z hz=>?_,Zp5 ht hl x l hy.2⟩
   rcases List.mem_cons.1 ((Zjj le x l).mem_iff.1 hz) with rfl | hz
   have:=hl z y
   simp only [Bool.or_eq_true] at this
   exact this.resolve_left hx
   exact hy.1 z hz
theorem ZfQ (ht:∀ a b c,le a b=true->le b c=true->le a c=true) (hl:∀ a b,(le a b||le b a)=true):∀ l:List α,(Zar le l).Pairwise fun a b=>le a b=true
 | []=>.nil
 | x::l=>Zp5 ht hl x _ (ZfQ ht hl l)
theorem Zmh (ht:∀ a b c,le a b=true->le b c=true->le a c=true) (hl:∀ a b,(le a b||le b a)=true) (ha:∀ a b,le a b=true->le b a=true->a=b) (l:List α):l.mergeSort le=Zar le l:=
 List.Perm.eq_of_pairwise (fun _ _ _ _ h k=>ha _ _ h k) (List.pairwise_mergeSort ht hl l) (ZfQ ht hl l) ((List.mergeSort_perm l le).trans (Zfl le l).symm)
end
def leC {α:Type} (cf:α->α->Int) (x y:α):Bool:=!ltOf cf y x
theorem Zmi {α:Type} {cf:α->α->Int} (hO:SWO (ltOf cf)) (a b c:α) (h:leC cf a b=true) (k:leC cf b c=true):leC cf a c=true:=by
 unfold leC at *
 simp only [Bool.not_eq_true'] at *
 exact hO.ntrans _ _ _ k h
theorem Zmj {α:Type} {cf:α->α->Int} (hO:SWO (ltOf cf)) (a b:α):(leC cf a b||leC cf b a)=true:=by{
unfold leC
cases h:ltOf cf b a with
| false=>rfl
| true=>
  cases h2:ltOf cf a b with
  | false=>rfl
  | true=>
    have:=hO.trans _ _ _ h h2
    rw [hO.irrefl] at this
    cases this}
theorem Zsp {α:Type} {cf:α->α->Int} (hT:∀ x y,ltOf cf x y=false->ltOf cf y x=false->x=y) (a b:α) (h:leC cf a b=true) (k:leC cf b a=true):a=b:=by
 unfold leC at *
 simp only [Bool.not_eq_true'] at *
 exact hT a b k h
theorem Zkh {α:Type} [Inhabited α] (enc:α->List Value) (k:Nat) (hk:∀ x,(enc x).length=k) {w:World} {g cap n:Nat} {cur:Array Value} {E:TypeId} {M:List α} (os:Array Obj) (hb:w.heap[g]? = some (.cells cur E (0,0))) (h1:M.length<=cap) (h2:cap<=maxLen) (h3:cur.size=cap * k) :
  (sortWorldK enc k w g 0 n M.toArray os).ownsRow 0 E k (.slice (some ⟨g,0,none⟩) M.length cap) M.length (M.flatMap enc)/\Gr (fun b=>blk (.slice (some ⟨g,0,none⟩) M.length cap)=some b) w (sortWorldK enc k w g 0 n M.toArray os):=by{
obtain ⟨o1,o2⟩:=ZnJ (n:=n) enc k hk (M:=M) hb h1 h2 h3
have hg:g<w.heap.size:=(Array.getElem?_eq_some_iff.1 hb).1
have hold:∀ b,b<(putRowK enc k (Sort.ahead w n) g 0 M.toArray).heap.size->(sortWorldK enc k w g 0 n M.toArray os).heap[b]? = (putRowK enc k (Sort.ahead w n) g 0 M.toArray).heap[b]?:=fun b hb=>by
 show (_++os)[b]? = _
 rw [Array.getElem?_append_left hb]
have hsz:w.heap.size<=(putRowK enc k (Sort.ahead w n) g 0 M.toArray).heap.size:=o2.size
refine ⟨⟨o1.1,?_⟩,o2.os,o2.tape,o2.output,Nat.le_trans hsz (by show _<=(_++os).size;simp),fun b hb hn=>(hold b (Nat.lt_of_lt_of_le hb hsz)).trans (o2.block b hb hn)⟩
rcases o1.2 with h | ⟨b,c,cu,q1,q2,q3,q4⟩
exact .inl h
injection q1 with q5 q6 q7
injection q5 with q5
injection q5 with q5
subst q5 q7
exact .inr ⟨g,cap,cu,rfl,q2,by rw [hold g (Nat.lt_of_lt_of_le hg hsz)];exact q3,q4⟩}
theorem ZoW {P:Program} [WInv P] {α:Type} [Inhabited α] {f g:FuncId} {E k:Nat} {cs:α->List PV} {enc:α->List Value} (hg:isGo P f=true) (hpl:∀ x,Zbz (cs x)=some (enc x)) (hk:∀ x,(enc x).length=k) (hc:∀ x,(cs x).length=k) (hp:∀ x,∀ p ∈ cs x,p.pure=true) {cf:α->α->Int} (hO:SWO (ltOf cf)) (hT:∀ x y,ltOf cf x y=false->ltOf cf y x=false->x=y)
  (hnone:∀ (cap:Nat) (W:World) (A:Option Addr),Calls P f #[.slice A 0 cap,.func (.func g) #[] #[]] W fun e w'=>e = .returned (.tuple #[])/\w'=W)
  (hsort:∀ (blk off cap:Nat) (d:Array α) (w:World),HoldsK enc k w blk off d->blk<w.heap.size->d.size<4611686018427387904->Calls P f #[.slice (some ⟨blk,off,none⟩) d.size cap,.func (.func g) #[] #[]] w fun e w'=>e = .returned (.tuple #[])/\∃ n os,w'=sortWorldK enc k w blk off n (d.toList.mergeSort fun x y=>!(ltOf cf) y x).toArray os)
  (M:List α) (hM:M.length<4611686018427387904):ContractR P f [.fn g []] E k (M.map cs) (.tup []) ((Zar (leC cf) M).map cs):=by{
refine Zji hg (fun e he=>?_) (fun e he p hpp=>?_) (by rw [Zep hpl];rfl) fun W v vs hown hvs=>?_
obtain ⟨x,_,rfl⟩:=List.mem_map.1 he
exact hc x
obtain ⟨x,_,rfl⟩:=List.mem_map.1 he
exact hp x p hpp
rw [Zep hpl] at hvs
injection hvs with hvs
subst hvs
rw [List.length_map] at hown
have hlen:(Zar (leC cf) M).length=M.length:=(Zfl _ M).length_eq
rcases hown.2 with ⟨hn,h0⟩ | ⟨b,cap,cur,hv,hB,hh,h1,h2,h3,ht⟩
obtain rfl:M = []:=List.eq_nil_of_length_eq_zero h0
subst hn
refine (hnone 0 W none).mono ?_
rintro e w' ⟨rfl,rfl⟩
exact ⟨[],rfl,rfl,World.ownsRow_nil _ _ _ _,Gr.refl _ _⟩
subst hv
have hH:=Zpp enc k hk hh ht
have:=hsort b 0 cap M.toArray W hH (Array.getElem?_eq_some_iff.1 hh).1 (by simpa using hM)
refine Calls.mono this ?_
rintro e w' ⟨rfl,n,os,rfl⟩
rw [show M.toArray.toList=M from rfl,Zmh (le:=fun x y=>!(ltOf cf) y x) (Zmi hO) (Zmj hO) (Zsp hT)]
obtain ⟨o1,o2⟩:=Zkh (n:=n) enc k hk (M:=Zar (leC cf) M) os hh (by omega) h2 h3
rw [hlen] at o1 o2
refine ⟨(Zar (leC cf) M).flatMap enc,rfl,Zep hpl _,?_,?_⟩
rw [List.length_map,hlen]
exact o1
exact o2}
end VL
end Go.Proofs.YtpffimahajgiaaaGreatDoor
namespace Go.Proofs.YtpffimahajgiaaaGreatDoor
namespace VL
open Go.Sort
structure CmpLaws {α:Type} (c:α->α->Int):Prop where
 zero:∀ x y,c x y=0↔x=y
 neg:∀ x y,c x y<0↔0<c y x
 trans:∀ x y z,c x y<0->c y z<0->c x z<0
theorem CmpLaws.swo {α:Type} {c:α->α->Int} (h:CmpLaws c):SWO (ltOf c) where
 irrefl x:=by
  have:=(h.zero x x).2 rfl
  unfold ltOf
  rw [this]
  rfl
 trans x y z h1 h2:=by
  unfold ltOf at *
  simp only [decide_eq_true_eq] at *
  exact h.trans x y z h1 h2
 ntrans x y z h1 h2:=by
  unfold ltOf at *
  simp only [decide_eq_false_iff_not] at *
  intro h3
  by_cases e1:x=y
  ·subst e1
   exact h2 h3
  by_cases e2:y=z
  ·subst e2
   exact h1 h3
  have n1:c y x<0:=(h.neg y x).2 (by have:¬ c x y=0:=fun e=>e1 ((h.zero x y).1 e)
                                     omega)
  have n2:c z y<0:=(h.neg z y).2 (by have:¬ c y z=0:=fun e=>e2 ((h.zero y z).1 e)
                                     omega)
  have n3:=h.trans z y x n2 n1
  have:=(h.neg x z).1 h3
  omega
theorem CmpLaws.tot {α:Type} {c:α->α->Int} (h:CmpLaws c) (x y:α) (h1:ltOf c x y=false) (h2:ltOf c y x=false):x=y:=by{
unfold ltOf at *
simp only [decide_eq_false_iff_not] at *
have:=(h.neg y x).2
exact (h.zero x y).1 (by omega)}
def ZsR (a b:Int):Int:=if a=0 then b else a
theorem CmpLaws.lex {α β γ:Type} {c:β->β->Int} {d:γ->γ->Int} (hc:CmpLaws c) (hd:CmpLaws d) {f:α->β} {g:α->γ} (hi:∀ x y,f x=f y->g x=g y->x=y):CmpLaws fun x y=>ZsR (c (f x) (f y)) (d (g x) (g y)) where
 zero x y:=by
  unfold ZsR
  by_cases h:c (f x) (f y)=0
  ·rw [if_pos h]
   exact ⟨fun h2=>hi x y ((hc.zero _ _).1 h) ((hd.zero _ _).1 h2),fun h2=>by rw [h2];exact (hd.zero _ _).2 rfl⟩
  ·rw [if_neg h]
   exact ⟨fun h2=>absurd h2 h,fun h2=>absurd ((hc.zero _ _).2 (by rw [h2])) h⟩
 neg x y:=by
  unfold ZsR
  by_cases h:f x=f y
  ·rw [if_pos ((hc.zero _ _).2 h),if_pos ((hc.zero _ _).2 h.symm)]
   exact hd.neg _ _
  ·rw [if_neg (fun e=>h ((hc.zero _ _).1 e)),if_neg (fun e=>h ((hc.zero _ _).1 e).symm)]
   exact hc.neg _ _
 trans x y z:=by
  unfold ZsR
  by_cases h1:f x=f y
  ·rw [if_pos ((hc.zero _ _).2 h1),h1]
   by_cases h2:c (f y) (f z)=0
   ·rw [if_pos h2,if_pos h2]
    exact hd.trans _ _ _
   ·rw [if_neg h2,if_neg h2]
    exact fun _ h=>h
  ·rw [if_neg (fun e=>h1 ((hc.zero _ _).1 e))]
   by_cases h2:f y=f z
   ·rw [if_pos ((hc.zero _ _).2 h2),<- h2,if_neg (fun e=>h1 ((hc.zero _ _).1 e))]
    exact fun h _=>h
   ·rw [if_neg (fun e=>h2 ((hc.zero _ _).1 e))]
    intro h3 h4
    have h5:=hc.trans _ _ _ h3 h4
    rw [if_neg (by omega)]
    exact h5
theorem cmpInt_laws:CmpLaws Lib.compareInt where
 zero x y:=by
  unfold Lib.compareInt
  split
  ·omega
  ·split<;>omega
 neg x y:=by
  unfold Lib.compareInt
  split<;>split<;>(try split)<;>omega
 trans x y z:=by
  unfold Lib.compareInt
  intro h1 h2
  split at h1
  ·split at h2
   ·rw [if_pos (by omega)];decide
   ·split at h2<;>omega
  ·split at h1<;>omega
theorem Zho:∀ a b:List UInt8,Lib.compareBytes a b=0↔a=b
 | [],[]=>by simp [Lib.compareBytes]
 | [],_::_=>by simp [Lib.compareBytes]
 | _::_,[]=>by simp [Lib.compareBytes]
 | a::l,b::m=>by
   unfold Lib.compareBytes
   split
   rename_i h
   refine Iff.intro (fun h2=>absurd h2 (by decide)) (fun h2=>?_)
   have h3:a=b:=(List.cons.inj h2).1
   rw [h3] at h
   exact absurd h (UInt8.lt_irrefl _)
   split
   rename_i h
   refine Iff.intro (fun h2=>absurd h2 (by decide)) (fun h2=>?_)
   have h3:a=b:=(List.cons.inj h2).1
   rw [h3] at h
   exact absurd h (UInt8.lt_irrefl _)
   rename_i h1 h2
   rw [Zho l m]
   have:a=b:=UInt8.le_antisymm (UInt8.not_lt.1 h2) (UInt8.not_lt.1 h1)
   rw [this]
   simp
theorem Zit:∀ a b:List UInt8,Lib.compareBytes a b<0↔0<Lib.compareBytes b a
 | [],[]=>by simp [Lib.compareBytes]
 | [],_::_=>by simp [Lib.compareBytes]
 | _::_,[]=>by simp [Lib.compareBytes]
 | a::l,b::m=>by
   unfold Lib.compareBytes
   by_cases h:a<b
   rw [if_pos h,if_neg (fun h2=>UInt8.lt_irrefl _ (UInt8.lt_trans h h2)),if_pos h]
   decide
   rw [if_neg h]
   by_cases h2:b<a
   rw [if_pos h2,if_pos h2]
   decide
   rw [if_neg h2,if_neg h2,if_neg h]
   exact Zit l m
theorem ZgI:∀ a b c:List UInt8,Lib.compareBytes a b<0->Lib.compareBytes b c<0->Lib.compareBytes a c<0
 | _,[],[],_,h2=>by simp [Lib.compareBytes] at h2
 | [],_,_::_,_,_=>by simp [Lib.compareBytes]
 | _::_,[],_,h1,_=>by simp [Lib.compareBytes] at h1
 | _,_::_,[],_,h2=>by simp [Lib.compareBytes] at h2
 | a::l,b::m,c::n,h1,h2=>by
   unfold Lib.compareBytes at *
   by_cases hab:a<b
   by_cases hbc:b<c
   rw [if_pos (UInt8.lt_trans hab hbc)];decide
   rw [if_neg hbc] at h2
   by_cases hcb:c<b
   rw [if_pos hcb] at h2;exact absurd h2 (by decide)
   have:b=c:=UInt8.le_antisymm (UInt8.not_lt.1 hcb) (UInt8.not_lt.1 hbc)
   rw [if_pos (by rw [<- this];exact hab)];decide
   rw [if_neg hab] at h1
   by_cases hba:b<a
   rw [if_pos hba] at h1;exact absurd h1 (by decide)
   have e:a=b:=UInt8.le_antisymm (UInt8.not_lt.1 hba) (UInt8.not_lt.1 hab)
   subst e
   rw [if_neg hba] at h1
   by_cases hbc:a<c
   rw [if_pos hbc];decide
   rw [if_neg hbc] at h2 ⊢
   by_cases hcb:c<a
   rw [if_pos hcb] at h2;exact absurd h2 (by decide)
   rw [if_neg hcb] at h2 ⊢
   exact ZgI l m n h1 h2
theorem ZgQ:CmpLaws fun a b:ByteArray=>Lib.compareBytes a.data.toList b.data.toList where
 zero x y:=by
  rw [Zho]
  exact ⟨fun h=>by obtain ⟨⟨x⟩⟩:=x;obtain ⟨⟨y⟩⟩:=y;exact congrArg (fun l:List UInt8=>(⟨⟨l⟩⟩:ByteArray)) h,fun h=>by rw [h]⟩
 neg x y:=Zit _ _
 trans x y z:=ZgI _ _ _
end VL
end Go.Proofs.YtpffimahajgiaaaGreatDoor
