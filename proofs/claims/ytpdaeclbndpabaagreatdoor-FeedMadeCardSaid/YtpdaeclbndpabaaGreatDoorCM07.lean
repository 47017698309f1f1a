/- strings.Trim at a set of ASCII bytes. | strings.ContainsAny -/
import Derived.Test.YtpdaeclbndpabaaGreatDoorCM06
import Derived.Lib.OwnBridge
set_option linter.unusedSimpArgs false
set_option maxRecDepth 1000000
set_option maxHeartbeats 8000000
set_option linter.unusedVariables false
namespace Go.Proofs.YtpdaeclbndpabaaGreatDoor
section
open VL Go.RowKit
def Zy3 (l:List UInt8):List Bool:=(List.range 256).map fun j=>l.contains (UInt8.ofNat j)
def Zj4 (l:List UInt8):List PV:=(Zy3 l).map PV.bool
theorem Zq4 (l:List UInt8):(Zj4 l).length=256:=by simp [Zj4,Zy3]
theorem Zxx (l:List UInt8) (x:UInt8):(Zj4 l)[x.toNat]? = some (.bool (l.contains x)):=by{
have hx:x.toNat<256:=x.toNat_lt
unfold Zj4 Zy3
rw [List.getElem?_map,List.getElem?_map,List.getElem?_range hx]
simp}
theorem Ztw (l:List UInt8) (x:UInt8):ZpG false 1 ((Zj4 l).drop (x.toNat * 1))=some (.bool (l.contains x)):=by
 show ((Zj4 l).drop (x.toNat * 1))[0]? = _
 rw [List.getElem?_drop,Nat.mul_one,Nat.add_zero]
 exact Zxx l x
theorem Zy4 {f:Nat->Option (Gen×VObj)} {t:Nat} {g:Gen} {l:List UInt8} (h:Zbh f t g=some (.box (Zj4 l))) (s:ByteArray):ZhE (frz f) [.str s,.ptr t g 0]=some [.str s,.cel (Zj4 l)]:=by{
have e:Zph f (.ptr t g 0)=some (.cel (Zj4 l)):=by
 simp only [Zph,h,List.drop_zero]
 unfold Zj4
 rw [ZnY]
 rfl
simp only [ZhE,frz,Zqt,e]}
instance:Ar Tryz.prog 265 256 1:=⟨by kernel_rfl⟩
instance:Ze Tryz.prog 265 (List.replicate 256 (.bool false)):=⟨by kernel_rfl⟩
instance:Ld Tryz.prog 265 true 256:=⟨by kernel_rfl⟩
theorem ZiI (l:List UInt8) (x:UInt8):Zb Tryz.prog 261 [.cel (Zj4 l),.int .u8 (x.toNat:Int)] (.bool (l.contains x)):=by
 refine Zbe mix Tryz.func261 (by kernel_rfl) rfl (by kernel_rfl) ?_
 repeat (first | (refine ZqC rfl rfl ?_) | (refine Zpn rfl rfl rfl x.toNat_lt ?_) | (refine Zmb rfl rfl (Ztw l x) ?_) | refine ZbJ ?_)
 exact Zb8 rfl rfl rfl
def Zge (l:List UInt8) (s:ByteArray):ByteArray:=⟨(s.data.toList.dropWhile l.contains).toArray⟩
def Ze1 (l:List UInt8) (s:ByteArray):ByteArray:=⟨(s.data.toList.reverse.dropWhile l.contains).reverse.toArray⟩
theorem Ztx {l:List UInt8} {s:ByteArray} (h:¬ 0<s.size):Zge l s=s:=by{
obtain ⟨⟨d⟩⟩:=s
cases d with
| nil=>rfl
| cons a r=>exact absurd (Nat.succ_pos _) h}
theorem Zr5 {l:List UInt8} {s:ByteArray} (h:0<s.size) (h1:l.contains (s[0]'h)=false):Zge l s=s:=by{
obtain ⟨⟨d⟩⟩:=s
cases d with
| nil=>exact absurd h (Nat.lt_irrefl 0)
| cons a r=>
  have h2:l.contains a=false:=h1
  show (⟨(List.dropWhile l.contains (a::r)).toArray⟩:ByteArray)=⟨(a::r).toArray⟩
  rw [List.dropWhile_cons,if_neg (by rw [h2];simp)]}
theorem Zr6 {l:List UInt8} {s:ByteArray} (h:0<s.size) (h1:l.contains (s[0]'h)=true):Zge l (s.extract 1 s.size)=Zge l s:=by{
obtain ⟨⟨d⟩⟩:=s
cases d with
| nil=>exact absurd h (Nat.lt_irrefl 0)
| cons a r=>
  have h2:l.contains a=true:=h1
  have e:(⟨(a::r).toArray⟩:ByteArray).extract 1 (a::r).length=⟨(((a::r).drop 1).take ((a::r).length-1)).toArray⟩:=ByteArray.extract_mk (a::r) 1 (a::r).length
  show Zge l ((⟨(a::r).toArray⟩:ByteArray).extract 1 (a::r).length)=_
  rw [e]
  show (⟨(List.dropWhile l.contains (((a::r).drop 1).take ((a::r).length-1))).toArray⟩:ByteArray)=⟨(List.dropWhile l.contains (a::r)).toArray⟩
  rw [List.dropWhile_cons,if_pos h2]
  simp}
theorem Zty {l:List UInt8} {s:ByteArray} (h:¬ 0<s.size):Ze1 l s=s:=by{
obtain ⟨⟨d⟩⟩:=s
cases d with
| nil=>rfl
| cons a r=>exact absurd (Nat.succ_pos _) h}
theorem Zmq (s:ByteArray) (n:Nat) (hn:s.size=n+1):∃ r:List UInt8,s.data.toList=r ++ [s[n]'(by omega)]/\r.length=n/\s.extract 0 n=⟨r.toArray⟩:=by{
obtain ⟨⟨d⟩⟩:=s
have hd:d.length=n+1:=hn
refine ⟨d.take n,?_,by simp;omega,?_⟩
show d=d.take n ++ [d[n]]
rw [List.take_append_getElem]
rw [List.take_of_length_le (by omega)]
have e:(⟨d.toArray⟩:ByteArray).extract 0 n=⟨((d.drop 0).take (n-0)).toArray⟩:=ByteArray.extract_mk d 0 n
show (⟨d.toArray⟩:ByteArray).extract 0 n=_
rw [e]
simp}
theorem Zr7 {l:List UInt8} {s:ByteArray} {n:Nat} (hn:s.size=n+1) (h1:l.contains (s[n]'(by omega))=false):Ze1 l s=s:=by{
obtain ⟨r,e1,_,_⟩:=Zmq s n hn
unfold Ze1
rw [e1,List.reverse_append]
simp only [List.reverse_cons,List.reverse_nil,List.nil_append,List.cons_append,List.dropWhile,h1]
rw [List.reverse_reverse,<- e1]}
theorem Zr8 {l:List UInt8} {s:ByteArray} {n:Nat} (hn:s.size=n+1) (h1:l.contains (s[n]'(by omega))=true):Ze1 l (s.extract 0 n)=Ze1 l s:=by{
obtain ⟨r,e1,_,e3⟩:=Zmq s n hn
unfold Ze1
rw [e1,e3,List.reverse_append]
simp only [List.reverse_cons,List.reverse_nil,List.nil_append,List.cons_append,List.dropWhile,h1]}
theorem Zp5 (l:List UInt8) (s:ByteArray):Zb Tryz.prog 255 [.str s,.cel (Zj4 l)] (.str (Zge l s)):=by{
refine Zbe mix Tryz.func255 (by kernel_rfl) rfl (by kernel_rfl) ?_
repeat refine ZbJ ?_
refine Zi (α:=ByteArray) (fun c _=>mkS [(0,.str c),(1,.cel (Zj4 l))] [] 2) (fun c=>Zge l c=Zge l s) (fun c=>c.size) s 2 rfl (Zu [] ⟨rfl,rfl,trivial⟩ trivial rfl) (fun c _ (hno:Zge l c=Zge l s)=>?_)
repeat (first | refine ZbJ ?_ | refine ZK Tryz.underlying9 rfl rfl ?_)
by_cases hz:(0:Int)<(c.size:Int)
·refine Zah (by (conv=>lhs;whnf);try rfl) (decide_eq_true hz) ?_
 have hz':0<c.size:=by omega
 have h0:c[0]? = some (c[0]'hz'):=getElem?_pos c 0 hz'
 repeat (first | (refine Zm4 Tryz.underlying9 rfl rfl rfl h0 ?_) | (refine ZiV (ZiI l _) rfl rfl rfl ?_) | refine ZbJ ?_)
 rcases Bool.eq_false_or_eq_true (l.contains (c[0]'hz')) with hb | hb
 ·refine ZS (by (conv=>lhs;whnf);try rfl) (by rw [hb];rfl) ?_
  repeat (first | (refine Zm5 Tryz.underlying9 rfl rfl rfl rfl (by omega) (by omega) rfl ?_) | refine ZbJ ?_)
  refine ZY (c.extract 1 c.size) 2 ((Zr6 hz' hb).trans hno) ?_ (Zu [] ⟨rfl,rfl,trivial⟩ trivial rfl)
  show (c.extract 1 c.size).size<c.size
  rw [ByteArray.size_extract]
  omega
 ·refine Zah (by (conv=>lhs;whnf);try rfl) (by rw [hb];rfl) ?_
  repeat refine ZbJ ?_
  exact Zb8 rfl rfl (by rw [<- hno,Zr5 hz' hb];rfl)
·refine ZS (by (conv=>lhs;whnf);try rfl) (decide_eq_false hz) ?_
 repeat refine ZbJ ?_
 exact Zb8 rfl rfl (by rw [<- hno,Ztx (by omega)];rfl)}
theorem ZoK (l:List UInt8) (s:ByteArray) (hs:s.size<=9223372036854775807):Zb Tryz.prog 256 [.str s,.cel (Zj4 l)] (.str (Ze1 l s)):=by{
refine Zbe mix Tryz.func256 (by kernel_rfl) rfl (by kernel_rfl) ?_
repeat refine ZbJ ?_
refine Zi (α:=ByteArray) (fun c _=>mkS [(0,.str c),(1,.cel (Zj4 l))] [] 2) (fun c=>Ze1 l c=Ze1 l s/\c.size<=9223372036854775807) (fun c=>c.size) s 2 ⟨rfl,hs⟩ (Zu [] ⟨rfl,rfl,trivial⟩ trivial rfl) (fun c _ hJ=>?_)
obtain ⟨(hno:Ze1 l c=Ze1 l s),(hcs:c.size<=9223372036854775807)⟩:=hJ
repeat (first | refine ZbJ ?_ | refine ZK Tryz.underlying9 rfl rfl ?_)
by_cases hz:(0:Int)<(c.size:Int)
·refine Zah (by (conv=>lhs;whnf);try rfl) (decide_eq_true hz) ?_
 obtain ⟨n,hn⟩:∃ n,c.size=n+1:=⟨c.size-1,by omega⟩
 have e1:(c.size:Int)-1=(n:Int):=by omega
 have h0:c[n]? = some (c[n]'(by omega)):=getElem?_pos c n (by omega)
 have h2:toNat? (PV.int .i64 ((c.size:Int)-1))=some n:=by rw [e1];exact Zg7
 repeat (first | (refine Zm4 Tryz.underlying9 rfl rfl (congrArg (PV.int .i64) e1) h0 ?_) | (refine ZiV (ZiI l _) rfl rfl rfl ?_) | refine Zas rfl rfl rfl (by omega) (by omega) ?_ | refine ZbJ ?_ | refine ZK Tryz.underlying9 rfl rfl ?_)
 rcases Bool.eq_false_or_eq_true (l.contains (c[n]'(by omega))) with hb | hb
 ·refine ZS (by (conv=>lhs;whnf);try rfl) (by rw [hb];rfl) ?_
  repeat (first | (refine Zm5 Tryz.underlying9 rfl rfl rfl h2 (by omega) (by omega) rfl ?_) | refine Zas rfl rfl rfl (by omega) (by omega) ?_ | refine ZbJ ?_ | refine ZK Tryz.underlying9 rfl rfl ?_)
  refine ZY (c.extract 0 n) 2 ⟨(Zr8 hn hb).trans hno,?_⟩ ?_ (Zu [] ⟨rfl,rfl,trivial⟩ trivial rfl)
  show (c.extract 0 n).size<=_
  rw [ByteArray.size_extract]
  omega
  show (c.extract 0 n).size<c.size
  rw [ByteArray.size_extract]
  omega
 ·refine Zah (by (conv=>lhs;whnf);try rfl) (by rw [hb];rfl) ?_
  repeat refine ZbJ ?_
  exact Zb8 rfl rfl (by rw [<- hno,Zr7 hn hb];rfl)
·refine ZS (by (conv=>lhs;whnf);try rfl) (decide_eq_false hz) ?_
 repeat refine ZbJ ?_
 exact Zb8 rfl rfl (by rw [<- hno,Zty (by omega)];rfl)}
theorem Znj (l:List UInt8):(Lib.setCells l).toList=(Zy3 l).map Value.bool:=by
 rw [Lib.setCells_eq]
 simp [Zy3]
theorem Ztz (l:List UInt8) (hs:l.length<4294967281) (hl:∀ (j:Nat) b,l[j]? = some b->b.toNat<128):Zb Tryz.prog 254 [.str ⟨l.toArray⟩] (.tup [.agg (Zj4 l),.bool true]):=
 Zac (vals:=[.string ⟨l.toArray⟩]) (v:=.tuple #[.agg (Lib.setCells l),.bool true]) (by kernel_rfl) rfl (by
   show (PV.dry2 (.agg (Zj4 l))&&(PV.dry2 (.bool true)&&true))=true
   have:(Zj4 l).all PV.dry1=true:=by
    rw [List.all_eq_true]
    intro p hp
    obtain ⟨b,_,rfl⟩:=List.mem_map.1 hp
    rfl
   show ((Zj4 l).all PV.dry1&&_)=true
   rw [this]
   rfl)
  (fun x=>.tup _ _ rfl fun i p v hp hv=>by
   match i,hp,hv with
   | 0,hp,hv=>
     injection hp with hp
     injection hv with hv
     subst hp hv
     refine .agg _ _ (by rw [Zq4,Lib.setCells_size]) fun j q w hq hw=>?_
     rw [<- Array.getElem?_toList,Znj,List.getElem?_map,Option.map_eq_some_iff] at hw
     obtain ⟨b,hb,rfl⟩:=hw
     unfold Zj4 at hq
     rw [List.getElem?_map,hb] at hq
     injection hq with hq
     subst hq
     exact .bool b
   | 1,hp,hv=>injection hp with hp;injection hv with hv;subst hp hv;exact .bool _
   | i+2,hp,_=>simp at hp)
  fun w _=>(Tryz.strings_makeASCIISet (fun w=>Tryz.zeroValue265 w) ⟨l.toArray⟩ w hs (fun j b h=>hl j b (by simpa using h))).mono fun e w' ⟨e1,e2⟩=>by
   have e3:(⟨l.toArray⟩:ByteArray).data.toList=l:=by simp
   rw [e3] at e1 e2
   exact ⟨e1,by rw [e2];exact Below.al (Below.refl _ _) _⟩
def Ze2:List UInt8:=[32,9]
theorem Zy5 (s:ByteArray) (hs:s.size<=9223372036854775807):Zb Tryz.prog 226 [.str s,.str ⟨#[32,9]⟩] (.str (Zge Ze2 (Ze1 Ze2 s))):=by{
have hm:=Ztz Ze2 (by decide) (fun j b h=>by
 match j,h with
 | 0,h=>injection h with h;subst h;decide
 | 1,h=>injection h with h;subst h;decide
 | j+2,h=>simp [Ze2] at h)
have hR:=ZoK Ze2 s hs
have hL:=Zp5 Ze2 (Ze1 Ze2 s)
have ha:∀ {f:Nat->Option (Gen×VObj)} {t:Nat} {g:Gen},Zbh f t g=some (.box (Zj4 Ze2))->∀ s,ZhE (frz f) [.str s,.ptr t g 0]=some [.str s,.cel (Zj4 Ze2)]:=fun h s=>Zy4 h s
have hspc:(Zj4 Ze2).all PV.cell=true:=by
 rw [List.all_eq_true]
 intro p hp
 obtain ⟨b,_,rfl⟩:=List.mem_map.1 hp
 rfl
have hsl:(Zj4 Ze2).length=256:=Zq4 _
have hrc:(List.replicate 256 (PV.bool false)).all PV.cell=true:=by
 rw [List.all_eq_true]
 intro p hp
 rw [List.eq_of_mem_replicate hp]
 rfl
have hrl:(List.replicate 256 (PV.bool false)).length=256:=List.length_replicate
generalize Zj4 Ze2=sp at hm hR hL ha hspc hsl
generalize hz:List.replicate 256 (PV.bool false)=zp at hrc hrl
have zi:Ze Tryz.prog 265 zp:=hz ▸ inferInstance
refine Zbe mix Tryz.func226 (by kernel_rfl) rfl (by kernel_rfl) ?_
repeat refine ZbJ ?_
by_cases h0:s=⟨#[]⟩
·rw [decide_eq_true h0]
 repeat (first | (refine Zg rfl ?_) | refine ZbJ ?_)
 refine Zah (by (conv=>lhs;whnf);try rfl) rfl ?_
 repeat refine ZbJ ?_
 exact Zb8 rfl rfl (by rw [h0];rfl)
rw [decide_eq_false h0]
repeat refine ZbJ ?_
refine ZS (by (conv=>lhs;whnf);try rfl) (by decide) ?_
repeat (first | (refine Zg rfl ?_) | (refine ZS rfl rfl ?_) | (refine Zc8 hm rfl rfl ?_) | (refine ZkR (z:=zp) rfl hrc ?_) | (refine ZkS (ps:=sp) (cs:=zp) (cs':=sp) rfl rfl rfl rfl rfl hsl hspc (show 0+256<=zp.length by omega) (Zrj (show zp.length=sp.length by omega)) ?_) | (refine Zah rfl rfl ?_) | (refine ZiV hR rfl (ha rfl _) rfl ?_) | (refine ZiV hL rfl (ha rfl _) rfl ?_) | refine ZbJ ?_ | refine ZK Tryz.underlying9 rfl rfl ?_)
exact Zb8 rfl rfl rfl}
def Zwi (s:ByteArray):Prop:=∀ (j:Nat) (b:UInt8),s.data.toList[j]? = some b->b.toNat<128
theorem ZmY (s:ByteArray) (hs:s.size<4294967281) (ha:Zwi s):Zb Tryz.prog 238 [.str s,.str ⟨#[10,124]⟩] (.bool (Lib.containsAny s.data.toList [10,124])):=
 Zac (vals:=[.string s,.string ⟨#[10,124]⟩]) (by kernel_rfl) rfl rfl (fun x=>.bool _) fun w _=>Tryz.strings_ContainsAny_laid s ⟨#[10,124]⟩ w hs (by decide) ha (fun j b h=>by
  match j,h with
  | 0,h=>injection h with h;subst h;decide
  | 1,h=>injection h with h;subst h;decide
  | j+2,h=>simp at h)
theorem Zs2 {α:Type} {L:List α} {i:Nat} {a:α} (h:L[i]? = some a):L.drop i=a::L.drop (i+1):=by{
have hlt:i<L.length:=(List.getElem?_eq_some_iff.1 h).1
rw [List.drop_eq_getElem_cons hlt]
rw [List.getElem?_eq_getElem hlt] at h
injection h with h
rw [h]}
end
section
open VL
theorem ZlJ (t:Title):ContractN Tryz.prog 208 [t.pv] (.row 36 2 false ((ZhD t).map Title.cs)):=
 Zeb (vals:=[.agg #[.int .i64 t.space,.string t.name]]) (enc:=Zdw) (by kernel_rfl) rfl Zel (fun S w x cs h=>h) (fun x=>rfl) fun w hw=>Zj8 t w hw.1
theorem ZpN (t:Title):Zb Tryz.prog 155 [t.pv] (.sl ((ZJ t).map Scope.cs)):=by{
have hlen:=Zki t
refine Zbe mix Tryz.func155 (by kernel_rfl) rfl (by kernel_rfl) ?_
repeat (first | (refine Zqw (ZlJ t) rfl rfl ?_) | (refine Zas rfl rfl rfl (by simp;omega) (by simp;omega) ?_) | refine ZaB rfl rfl (by omega) ?_ | refine Zaw rfl rfl rfl (by omega) (by omega) ?_ | refine g_dec rfl rfl rfl (by omega) ?_ | refine Zas rfl rfl rfl (by omega) (by omega) ?_ | refine ZbJ ?_ | refine ZK Tryz.underlying9 rfl rfl ?_)
refine Zi (α:=Nat) (fun n _=>mkS [(1,.ptr 1 (1,1) 0),(3,.row 8 (1,8)),(4,.sl ((ZhD t).map Title.cs)),(5,.int .i64 ((n:Int)-1))]
  [(1,some ((1,1),.box t.cs)),(8,some ((1,8),.row 133 3 false ((⟨3,t⟩::((ZhD t).drop n).reverse.map fun a=>(⟨3,a⟩:Scope)).map Scope.cs)))] 2)
 (fun n=>n<=(ZhD t).length) (fun n=>n) (ZhD t).length 2 (Nat.le_refl _)
 (Shift.trans (Zjn 4 rfl rfl) (Zu [((1,1),_),((1,8),_)] ⟨rfl,rfl,rfl,?_,trivial⟩ ⟨⟨rfl,rfl⟩,⟨?_,rfl⟩,trivial⟩ rfl)) (fun n _ (hn:n<=(ZhD t).length)=>?_)
show some (PV.int .i64 (((ZhD t).length:Int)-1))=some (PV.int .i64 ((((ZhD t).map Title.cs).length:Int)-1))
rw [List.length_map]
rw [List.drop_length]
rfl
repeat (first | refine ZaB rfl rfl (by omega) ?_ | refine Zaw rfl rfl rfl (by omega) (by omega) ?_ | refine g_dec rfl rfl rfl (by omega) ?_ | refine Zas rfl rfl rfl (by omega) (by omega) ?_ | refine ZbJ ?_ | refine ZK Tryz.underlying9 rfl rfl ?_)
by_cases hge:(0:Int)<=(n:Int)-1
·refine Zah (by (conv=>lhs;whnf);try rfl) (decide_eq_true hge) ?_
 obtain ⟨m,rfl⟩:∃ m,n=m+1:=⟨n-1,by omega⟩
 have e1:(((m+1:Nat):Int)-1)=(m:Int):=by omega
 obtain ⟨x,hx⟩:∃ x,(ZhD t)[m]? = some x:=⟨_,List.getElem?_eq_getElem (by omega)⟩
 have hcs:((ZhD t).map Title.cs)[m]? = some x.cs:=by rw [List.getElem?_map,hx];rfl
 repeat (first | (refine Zdc rfl rfl (congrArg (PV.int .i64) e1) hcs rfl ?_) | (refine ZdG rfl rfl rfl rfl (by show (List.length _+1) * _<=_;simp;omega) (by show List.length _+1<=_;simp;omega) (by rfl) ?_) | refine ZaB rfl rfl (by omega) ?_ | refine Zaw rfl rfl rfl (by omega) (by omega) ?_ | refine g_dec rfl rfl rfl (by omega) ?_ | refine Zas rfl rfl rfl (by omega) (by omega) ?_ | refine ZbJ ?_ | refine ZK Tryz.underlying9 rfl rfl ?_)
 refine ZY m 2 (by omega) (by omega) (Zu [((1,1),(1,1)),((1,8),_)] ⟨rfl,rfl,rfl,?_,trivial⟩ ⟨⟨rfl,rfl⟩,⟨?_,rfl⟩,trivial⟩ rfl)
 show some (PV.int .i64 ((m:Int)-1))=some (PV.int .i64 (((m+1:Nat):Int)-1-1))
 rw [e1]
 rw [Zs2 hx,List.reverse_cons,List.map_append,<- List.cons_append,List.map_append]
 rfl
·refine ZS (by (conv=>lhs;whnf);try rfl) (decide_eq_false hge) ?_
 obtain rfl:n=0:=by omega
 repeat (first | (refine ZdG rfl rfl rfl rfl (by show (List.length _+2) * _<=_;simp;omega) (by show List.length _+2<=_;simp;omega) (by rfl) ?_) | refine ZaB rfl rfl (by omega) ?_ | refine Zaw rfl rfl rfl (by omega) (by omega) ?_ | refine g_dec rfl rfl rfl (by omega) ?_ | refine Zas rfl rfl rfl (by omega) (by omega) ?_ | refine ZbJ ?_ | refine ZK Tryz.underlying9 rfl rfl ?_)
 refine Zb8 rfl rfl ?_
 unfold ZJ
 rw [Zs1,List.drop_zero]
 simp only [List.map_append,List.map_cons,List.map_nil]
 rfl}
theorem Zu6 (p:Policy) (G:List ByteArray) (right:Int) (t:Title) (hR:p.rules.length<=1000000):Zb Tryz.prog 105 [p.pv,Zpf G,.int .i64 right,t.pv] (.bool (Zjf p G right t)):=by{
have hcv:=Zl2 t
have hll:(ZJ t).length<=103:=by unfold ZJ;have:=Zki t;simp [Zgw];omega
refine Zbe mix Tryz.func105 (by kernel_rfl) rfl (by kernel_rfl) ?_
rcases Bool.eq_false_or_eq_true t.valid with hv | hv<;>rw [hv] at hcv
·repeat (first | (refine Zc8 hcv rfl rfl ?_) | refine ZaB rfl rfl (by omega) ?_ | refine Zaw rfl rfl rfl (by omega) (by omega) ?_ | refine g_dec rfl rfl rfl (by omega) ?_ | refine Zas rfl rfl rfl (by omega) (by omega) ?_ | refine ZbJ ?_ | refine ZK Tryz.underlying9 rfl rfl ?_)
 by_cases h1:right<1
 ·rw [decide_eq_true h1]
  repeat (first | (refine Zg rfl ?_) | refine ZaB rfl rfl (by omega) ?_ | refine Zaw rfl rfl rfl (by omega) (by omega) ?_ | refine g_dec rfl rfl rfl (by omega) ?_ | refine Zas rfl rfl rfl (by omega) (by omega) ?_ | refine ZbJ ?_ | refine ZK Tryz.underlying9 rfl rfl ?_)
  refine Zah (by (conv=>lhs;whnf);try rfl) rfl ?_
  repeat (first | refine ZaB rfl rfl (by omega) ?_ | refine Zaw rfl rfl rfl (by omega) (by omega) ?_ | refine g_dec rfl rfl rfl (by omega) ?_ | refine Zas rfl rfl rfl (by omega) (by omega) ?_ | refine ZbJ ?_ | refine ZK Tryz.underlying9 rfl rfl ?_)
  refine Zb8 rfl rfl ?_
  unfold Zjf
  rw [decide_eq_false (show ¬ 1<=right by omega)]
  simp
  rfl
 ·rw [decide_eq_false h1]
  repeat (first | refine ZaB rfl rfl (by omega) ?_ | refine Zaw rfl rfl rfl (by omega) (by omega) ?_ | refine g_dec rfl rfl rfl (by omega) ?_ | refine Zas rfl rfl rfl (by omega) (by omega) ?_ | refine ZbJ ?_ | refine ZK Tryz.underlying9 rfl rfl ?_)
  by_cases h5:5<right
  ·refine Zah (by (conv=>lhs;whnf);try rfl) (decide_eq_true h5) ?_
   repeat (first | refine ZaB rfl rfl (by omega) ?_ | refine Zaw rfl rfl rfl (by omega) (by omega) ?_ | refine g_dec rfl rfl rfl (by omega) ?_ | refine Zas rfl rfl rfl (by omega) (by omega) ?_ | refine ZbJ ?_ | refine ZK Tryz.underlying9 rfl rfl ?_)
   refine Zb8 rfl rfl ?_
   unfold Zjf
   rw [decide_eq_false (show ¬ right<=5 by omega)]
   simp
   rfl
  ·refine ZS (by (conv=>lhs;whnf);try rfl) (decide_eq_false h5) ?_
   have hmay:Zjf p G right t=Zcb p.rules G right (ZJ t):=by
    unfold Zjf
    rw [hv,decide_eq_true (show 1<=right by omega),decide_eq_true (show right<=5 by omega)]
    rfl
   rw [hmay]
   repeat (first | (refine Zc8 (ZpN t) rfl rfl ?_) | refine ZaB rfl rfl (by omega) ?_ | refine Zaw rfl rfl rfl (by omega) (by omega) ?_ | refine g_dec rfl rfl rfl (by omega) ?_ | refine Zas rfl rfl rfl (by omega) (by omega) ?_ | refine ZbJ ?_ | refine ZK Tryz.underlying9 rfl rfl ?_)
   refine Zi (α:=Nat) (fun i _=>mkS [(1,Zpf G),(2,.int .i64 right),(4,.ptr 4 (1,4) 0),(9,.sl ((ZJ t).map Scope.cs)),(10,.int .i64 ((i:Nat):Int))] [(4,some ((1,4),.box p.cs))] 2)
    (fun i=>i<=(ZJ t).length/\Zcb p.rules G right (ZJ t)=Zcb p.rules G right ((ZJ t).drop i)) (fun i=>(ZJ t).length-i) 0 2 ⟨Nat.zero_le _,rfl⟩
    (Zu [((1,4),_)] ⟨rfl,rfl,rfl,rfl,rfl,trivial⟩ ⟨⟨rfl,rfl⟩,trivial⟩ rfl) (fun i _ hJ=>?_)
   obtain ⟨(hi:i<=(ZJ t).length),(hno:Zcb p.rules G right (ZJ t)=Zcb p.rules G right ((ZJ t).drop i))⟩:=hJ
   repeat (first | refine ZaB rfl rfl (by omega) ?_ | refine Zaw rfl rfl rfl (by omega) (by omega) ?_ | refine g_dec rfl rfl rfl (by omega) ?_ | refine Zas rfl rfl rfl (by omega) (by omega) ?_ | refine ZbJ ?_ | refine ZK Tryz.underlying9 rfl rfl ?_)
   by_cases hlt:(i:Int)<(((ZJ t).map Scope.cs).length:Int)
   ·refine Zah (by (conv=>lhs;whnf);try rfl) (decide_eq_true hlt) ?_
    have hlt':i<(ZJ t).length:=by simpa using hlt
    obtain ⟨lv,hx⟩:∃ lv,(ZJ t)[i]? = some lv:=⟨_,List.getElem?_eq_getElem hlt'⟩
    have hcs:((ZJ t).map Scope.cs)[i]? = some lv.cs:=by rw [List.getElem?_map,hx];rfl
    rw [Zs2 hx,Zcb] at hno
    repeat (first | refine ZaB rfl rfl (by omega) ?_ | refine Zaw rfl rfl rfl (by omega) (by omega) ?_ | refine g_dec rfl rfl rfl (by omega) ?_ | refine Zas rfl rfl rfl (by omega) (by omega) ?_ | refine ZbJ ?_ | refine ZK Tryz.underlying9 rfl rfl ?_)
    refine Zi (α:=Nat) (fun k _=>mkS [(1,Zpf G),(2,.int .i64 right),(4,.ptr 4 (1,4) 0),(9,.sl ((ZJ t).map Scope.cs)),(10,.int .i64 (i:Int)),(11,.bool ((p.rules.take k).any (ZL G right lv))),(12,.bool ((p.rules.take k).all fun r=>!ZL G right lv r||r.allow)),(13,.int .i64 ((k:Nat):Int))] [(4,some ((1,4),.box p.cs))] 2)
     (fun k=>k<=p.rules.length) (fun k=>p.rules.length-k) 0 2 (Nat.zero_le _)
     (Zu [((1,4),(1,4))] ⟨rfl,rfl,rfl,rfl,rfl,rfl,rfl,rfl,trivial⟩ ⟨⟨rfl,rfl⟩,trivial⟩ rfl) (fun k _ (hk:k<=p.rules.length)=>?_)
    repeat (first | refine ZaB rfl rfl (by omega) ?_ | refine Zaw rfl rfl rfl (by omega) (by omega) ?_ | refine g_dec rfl rfl rfl (by omega) ?_ | refine Zas rfl rfl rfl (by omega) (by omega) ?_ | refine ZbJ ?_ | refine ZK Tryz.underlying9 rfl rfl ?_)
    by_cases hlk:(k:Int)<((p.rules.map Rule.cs).length:Int)
    ·refine Zah (by (conv=>lhs;whnf);try rfl) (decide_eq_true hlk) ?_
     have hlk':k<p.rules.length:=by simpa using hlk
     obtain ⟨r,hr⟩:∃ r,p.rules[k]? = some r:=⟨_,List.getElem?_eq_getElem hlk'⟩
     have hcr:(p.rules.map Rule.cs)[k]? = some r.cs:=by rw [List.getElem?_map,hr];rfl
     have hany:(p.rules.take (k+1)).any (ZL G right lv)=((p.rules.take k).any (ZL G right lv)||ZL G right lv r):=ZqL hr
     have hall:(p.rules.take (k+1)).all (fun r=>!ZL G right lv r||r.allow)=((p.rules.take k).all (fun r=>!ZL G right lv r||r.allow)&&(!ZL G right lv r||r.allow)):=ZqM (f:=fun r=>!ZL G right lv r||r.allow) hr
     have hms:p.rules.length-(k+1)<p.rules.length-k:=by omega
     repeat (first | (refine Zdc rfl rfl rfl hcr rfl ?_) | refine ZaB rfl rfl (by omega) ?_ | refine Zaw rfl rfl rfl (by omega) (by omega) ?_ | refine g_dec rfl rfl rfl (by omega) ?_ | refine Zas rfl rfl rfl (by omega) (by omega) ?_ | refine ZbJ ?_ | refine ZK Tryz.underlying9 rfl rfl ?_)
     by_cases e1:r.right=right
     ·rw [decide_eq_true e1]
      repeat (first | (refine Zc8 (Zyt G _) rfl rfl ?_) | refine ZaB rfl rfl (by omega) ?_ | refine Zaw rfl rfl rfl (by omega) (by omega) ?_ | refine g_dec rfl rfl rfl (by omega) ?_ | refine Zas rfl rfl rfl (by omega) (by omega) ?_ | refine ZbJ ?_ | refine ZK Tryz.underlying9 rfl rfl ?_)
      rcases Bool.eq_false_or_eq_true (ZmP G r.group) with e2 | e2
      ·rw [e2]
       repeat (first | (refine Zdc rfl rfl rfl hcs rfl ?_) | (refine Zc8 (ZoA r.scope lv) rfl rfl ?_) | refine ZaB rfl rfl (by omega) ?_ | refine Zaw rfl rfl rfl (by omega) (by omega) ?_ | refine g_dec rfl rfl rfl (by omega) ?_ | refine Zas rfl rfl rfl (by omega) (by omega) ?_ | refine ZbJ ?_ | refine ZK Tryz.underlying9 rfl rfl ?_)
       have hf:ZL G right lv r=ZdO r.scope lv:=by unfold ZL;rw [decide_eq_true e1,e2];rfl
       rcases Bool.eq_false_or_eq_true (ZdO r.scope lv) with e3 | e3
       refine Zah (by (conv=>lhs;whnf);try rfl) e3 ?_
       rw [hf,e3] at hany hall
       simp only [Bool.or_true,Bool.not_true,Bool.false_or] at hany hall
       rcases Bool.eq_false_or_eq_true ((p.rules.take k).all fun r=>!ZL G right lv r||r.allow) with e4 | e4
       ·rw [e4]
        rw [e4,Bool.true_and] at hall
        repeat (first | refine ZaB rfl rfl (by omega) ?_ | refine Zaw rfl rfl rfl (by omega) (by omega) ?_ | refine g_dec rfl rfl rfl (by omega) ?_ | refine Zas rfl rfl rfl (by omega) (by omega) ?_ | refine ZbJ ?_ | refine ZK Tryz.underlying9 rfl rfl ?_)
        refine ZY (k+1) 2 hlk' hms (Zu [((1,4),(1,4))] ⟨rfl,rfl,rfl,rfl,rfl,?_,?_,rfl,trivial⟩ ⟨⟨rfl,rfl⟩,trivial⟩ rfl)
        rw [hany];rfl
        rw [hall];rfl
       ·rw [e4]
        rw [e4,Bool.false_and] at hall
        repeat (first | (refine Zg rfl ?_) | refine ZaB rfl rfl (by omega) ?_ | refine Zaw rfl rfl rfl (by omega) (by omega) ?_ | refine g_dec rfl rfl rfl (by omega) ?_ | refine Zas rfl rfl rfl (by omega) (by omega) ?_ | refine ZbJ ?_ | refine ZK Tryz.underlying9 rfl rfl ?_)
        refine ZY (k+1) 2 hlk' hms (Zu [((1,4),(1,4))] ⟨rfl,rfl,rfl,rfl,rfl,?_,?_,rfl,trivial⟩ ⟨⟨rfl,rfl⟩,trivial⟩ rfl)
        rw [hany];rfl
        rw [hall];rfl
       ·refine ZS (by (conv=>lhs;whnf);try rfl) e3 ?_
        rw [hf,e3] at hany hall
        simp only [Bool.or_false,Bool.not_false,Bool.true_or,Bool.and_true] at hany hall
        repeat (first | refine ZaB rfl rfl (by omega) ?_ | refine Zaw rfl rfl rfl (by omega) (by omega) ?_ | refine g_dec rfl rfl rfl (by omega) ?_ | refine Zas rfl rfl rfl (by omega) (by omega) ?_ | refine ZbJ ?_ | refine ZK Tryz.underlying9 rfl rfl ?_)
        refine ZY (k+1) 2 hlk' hms (Zu [((1,4),(1,4))] ⟨rfl,rfl,rfl,rfl,rfl,?_,?_,rfl,trivial⟩ ⟨⟨rfl,rfl⟩,trivial⟩ rfl)
        rw [hany];rfl
        rw [hall];rfl
      ·rw [e2]
       have hf:ZL G right lv r=false:=by unfold ZL;rw [decide_eq_true e1,e2];rfl
       rw [hf] at hany hall
       simp only [Bool.or_false,Bool.not_false,Bool.true_or,Bool.and_true] at hany hall
       repeat (first | (refine Zg rfl ?_) | refine ZaB rfl rfl (by omega) ?_ | refine Zaw rfl rfl rfl (by omega) (by omega) ?_ | refine g_dec rfl rfl rfl (by omega) ?_ | refine Zas rfl rfl rfl (by omega) (by omega) ?_ | refine ZbJ ?_ | refine ZK Tryz.underlying9 rfl rfl ?_)
       refine ZS (by (conv=>lhs;whnf);try rfl) rfl ?_
       repeat (first | refine ZaB rfl rfl (by omega) ?_ | refine Zaw rfl rfl rfl (by omega) (by omega) ?_ | refine g_dec rfl rfl rfl (by omega) ?_ | refine Zas rfl rfl rfl (by omega) (by omega) ?_ | refine ZbJ ?_ | refine ZK Tryz.underlying9 rfl rfl ?_)
       refine ZY (k+1) 2 hlk' hms (Zu [((1,4),(1,4))] ⟨rfl,rfl,rfl,rfl,rfl,?_,?_,rfl,trivial⟩ ⟨⟨rfl,rfl⟩,trivial⟩ rfl)
       rw [hany];rfl
       rw [hall];rfl
     ·rw [decide_eq_false e1]
      have hf:ZL G right lv r=false:=by unfold ZL;rw [decide_eq_false e1];rfl
      rw [hf] at hany hall
      simp only [Bool.or_false,Bool.not_false,Bool.true_or,Bool.and_true] at hany hall
      repeat (first | (refine Zg rfl ?_) | refine ZaB rfl rfl (by omega) ?_ | refine Zaw rfl rfl rfl (by omega) (by omega) ?_ | refine g_dec rfl rfl rfl (by omega) ?_ | refine Zas rfl rfl rfl (by omega) (by omega) ?_ | refine ZbJ ?_ | refine ZK Tryz.underlying9 rfl rfl ?_)
      refine ZS (by (conv=>lhs;whnf);try rfl) rfl ?_
      repeat (first | refine ZaB rfl rfl (by omega) ?_ | refine Zaw rfl rfl rfl (by omega) (by omega) ?_ | refine g_dec rfl rfl rfl (by omega) ?_ | refine Zas rfl rfl rfl (by omega) (by omega) ?_ | refine ZbJ ?_ | refine ZK Tryz.underlying9 rfl rfl ?_)
      refine ZY (k+1) 2 hlk' hms (Zu [((1,4),(1,4))] ⟨rfl,rfl,rfl,rfl,rfl,?_,?_,rfl,trivial⟩ ⟨⟨rfl,rfl⟩,trivial⟩ rfl)
      rw [hany];rfl
      rw [hall];rfl
    ·refine ZS (by (conv=>lhs;whnf);try rfl) (decide_eq_false hlk) ?_
     obtain rfl:k=p.rules.length:=by simp at hlk;omega
     rw [List.take_length]
     repeat (first | refine ZaB rfl rfl (by omega) ?_ | refine Zaw rfl rfl rfl (by omega) (by omega) ?_ | refine g_dec rfl rfl rfl (by omega) ?_ | refine Zas rfl rfl rfl (by omega) (by omega) ?_ | refine ZbJ ?_ | refine ZK Tryz.underlying9 rfl rfl ?_)
     rcases Bool.eq_false_or_eq_true (p.rules.any (ZL G right lv)) with e5 | e5
     ·refine Zah (by (conv=>lhs;whnf);try rfl) e5 ?_
      rw [if_pos e5] at hno
      repeat (first | refine ZaB rfl rfl (by omega) ?_ | refine Zaw rfl rfl rfl (by omega) (by omega) ?_ | refine g_dec rfl rfl rfl (by omega) ?_ | refine Zas rfl rfl rfl (by omega) (by omega) ?_ | refine ZbJ ?_ | refine ZK Tryz.underlying9 rfl rfl ?_)
      exact Zb8 rfl rfl (by rw [hno];rfl)
     ·refine ZS (by (conv=>lhs;whnf);try rfl) e5 ?_
      rw [if_neg (by rw [e5];simp)] at hno
      repeat (first | refine ZaB rfl rfl (by omega) ?_ | refine Zaw rfl rfl rfl (by omega) (by omega) ?_ | refine g_dec rfl rfl rfl (by omega) ?_ | refine Zas rfl rfl rfl (by omega) (by omega) ?_ | refine ZbJ ?_ | refine ZK Tryz.underlying9 rfl rfl ?_)
      exact ZY (i+1) 2 ⟨hlt',hno⟩ (by show (ZJ t).length-(i+1)<(ZJ t).length-i;omega) (Zu [((1,4),(1,4))] ⟨rfl,rfl,rfl,rfl,rfl,trivial⟩ ⟨⟨rfl,rfl⟩,trivial⟩ rfl)
   ·refine ZS (by (conv=>lhs;whnf);try rfl) (decide_eq_false hlt) ?_
    obtain rfl:i=(ZJ t).length:=by simp at hlt;omega
    rw [List.drop_length,Zcb] at hno
    repeat (first | refine ZaB rfl rfl (by omega) ?_ | refine Zaw rfl rfl rfl (by omega) (by omega) ?_ | refine g_dec rfl rfl rfl (by omega) ?_ | refine Zas rfl rfl rfl (by omega) (by omega) ?_ | refine ZbJ ?_ | refine ZK Tryz.underlying9 rfl rfl ?_)
    exact Zb8 rfl rfl (by rw [hno];rfl)
·repeat (first | (refine Zc8 hcv rfl rfl ?_) | (refine Zg rfl ?_) | refine ZaB rfl rfl (by omega) ?_ | refine Zaw rfl rfl rfl (by omega) (by omega) ?_ | refine g_dec rfl rfl rfl (by omega) ?_ | refine Zas rfl rfl rfl (by omega) (by omega) ?_ | refine ZbJ ?_ | refine ZK Tryz.underlying9 rfl rfl ?_)
 refine Zah (by (conv=>lhs;whnf);try rfl) rfl ?_
 repeat (first | refine ZaB rfl rfl (by omega) ?_ | refine Zaw rfl rfl rfl (by omega) (by omega) ?_ | refine g_dec rfl rfl rfl (by omega) ?_ | refine Zas rfl rfl rfl (by omega) (by omega) ?_ | refine ZbJ ?_ | refine ZK Tryz.underlying9 rfl rfl ?_)
 refine Zb8 rfl rfl ?_
 unfold Zjf
 rw [hv]
 rfl}
def Zls (p:Policy) (G:List ByteArray) (right:Int) (t:Title):Option Bool:=if p.rules.length<=1000000 then some (Zjf p G right t) else none
theorem ZtY (p:Policy) (G:List ByteArray) (right:Int) (t:Title) (r:Bool) (h:Zls p G right t=some r):Zb Tryz.prog 105 [p.pv,.sl (List.map csS G),.int .i64 right,t.pv] (.bool r):=by{
unfold Zls at h
split at h
cases h;exact Zu6 p G right t (by assumption)
cases h}
def Zdo (p:Policy) (G:List ByteArray) (right:Int) (t:Title):Option Bool:=if p.rules.length<=1000000 then some (Zjf p G right t) else none
theorem ZjV (p:Policy) (G:List ByteArray) (right:Int) (t:Title) (r:Bool) (h:Zdo p G right t=some r):Zb Tryz.prog 45 [p.pv,.sl (List.map csS G),.int .i64 right,t.pv] (.bool r):=by{
unfold Zdo at h
split at h
cases h;exact ZzS p G right t (by assumption)
cases h}
end
section
open VL Go.RowKit
open Go.Lib (holds_of_ownsRow)
def ZqV (s:ByteArray):Bool:=s.data.toList.all fun b=>decide (b.toNat<128)
theorem Zm7 {s:ByteArray} (h:ZqV s=true):Zwi s:=fun j b hj=>by
 have:=List.all_eq_true.1 h b (List.mem_of_getElem? hj)
 simpa using this
def ZbR (s c:ByteArray):Option ByteArray:=if s.size<=9223372036854775807/\c=⟨#[32,9]⟩ then some (Zge Ze2 (Ze1 Ze2 s)) else none
theorem Zcg (s c:ByteArray) (r:ByteArray) (h:ZbR s c=some r):Zb Tryz.prog 226 [.str s,.str c] (.str r):=by{
unfold ZbR at h
split at h
rename_i hc
cases h
rw [hc.2]
exact Zy5 s hc.1
cases h}
def Zcs (s c:ByteArray):Option Bool:=if (s.size<4294967281/\ZqV s=true)/\c=⟨#[10,124]⟩ then some (Lib.containsAny s.data.toList [10,124]) else none
theorem Zgx (s c:ByteArray) (r:Bool) (h:Zcs s c=some r):Zb Tryz.prog 238 [.str s,.str c] (.bool r):=by{
unfold Zcs at h
split at h
rename_i hc
cases h
rw [hc.2]
exact ZmY s hc.1.1 (Zm7 hc.1.2)
cases h}
def Zd2 (s c:ByteArray):Option Int:=if (s.size<4294967281/\ZqV s=true)/\(c.size<4294967281/\ZqV c=true) then some (Lib.indexAny s.data.toList c.data.toList) else none
theorem Zip (s c:ByteArray) (r:Int) (h:Zd2 s c=some r):Zb Tryz.prog 227 [.str s,.str c] (.int .i64 r):=by{
unfold Zd2 at h
split at h
rename_i hc
cases h
exact Zac (vals:=[.string s,.string c]) (by kernel_rfl) rfl rfl (fun x=>.int _ _) fun w _=>Tryz.strings_IndexAny_laid s c w hc.1.1 hc.2.1 (Zm7 hc.1.2) (Zm7 hc.2.2)
cases h}
def strings_Cut (s c:ByteArray):Option (ByteArray×ByteArray×Bool):=if s.size<4294967281 then some (⟨(Lib.cut s.data.toList c.data.toList).1.toArray⟩,⟨(Lib.cut s.data.toList c.data.toList).2.1.toArray⟩,(Lib.cut s.data.toList c.data.toList).2.2) else none
theorem ZAf {x:Ctx} (a b:ByteArray) (c:Bool):Rep x (.tup [.str a,.str b,.bool c]) (.tuple #[.string a,.string b,.bool c]):=.tup _ _ rfl fun i p v hp hv=>by
 match i,hp,hv with
 | 0,hp,hv=>injection hp with hp;injection hv with hv;subst hp hv;exact .str _
 | 1,hp,hv=>injection hp with hp;injection hv with hv;subst hp hv;exact .str _
 | 2,hp,hv=>injection hp with hp;injection hv with hv;subst hp hv;exact .bool _
 | i+3,hp,_=>simp at hp
theorem Zm8 (s c:ByteArray) (r:ByteArray×ByteArray×Bool) (h:strings_Cut s c=some r):Zb Tryz.prog 138 [.str s,.str c] (.tup [.str r.1,.str r.2.1,.bool r.2.2]):=by{
unfold strings_Cut at h
split at h
rename_i hc
cases h
exact Zac (vals:=[.string s,.string c]) (by kernel_rfl) rfl rfl (fun x=>ZAf _ _ _) fun w hw=>by
 obtain ⟨m,hm⟩:=hw.1
 refine (Tryz.strings_Cut s c m w hc hm).mono ?_
 rintro e w' ⟨rfl,n,rfl⟩
 exact ⟨rfl,Below.dn (Below.refl _ _) n⟩
cases h}
def strings_Split (s c:ByteArray):Option (List ByteArray):=if (s.size<4294967281/\1<=c.size)/\Lib.countB s c<=1000000 then some (Lib.splitB c 0 (Lib.countB s c) s) else none
theorem Zgy (s c:ByteArray) (r:List ByteArray) (h:strings_Split s c=some r):ContractN Tryz.prog 83 [.str s,.str c] (.row 9 1 false (List.map csS r)):=by{
unfold strings_Split at h
split at h
rename_i hc
injection h with h
have hlen:r.length=Lib.countB s c+1:=by rw [<- h];exact Lib.splitB_all c hc.1.2 0 _ s rfl
refine Zeb (α:=ByteArray) (vals:=[.string s,.string c]) (enc:=fun x=>[.string x]) (by kernel_rfl) rfl (fun x=>rfl) (fun S w x cs h=>h) (fun x=>rfl) fun w hw=>?_
obtain ⟨m,hm⟩:=hw.1
refine (Tryz.strings_Split s c m w hc.1.1 hm hc.1.2).mono ?_
rintro e w' ⟨rfl,rfl⟩
rw [h,<- hlen]
refine ⟨_,rfl,OwnL.of_row ⟨by simp,.inr ⟨w.heap.size,r.length,_,rfl,Nat.le_refl _,heap_alloc_new w _,Nat.le_refl _,?_,by simp,?_⟩⟩,Below.al (Below.refl _ _) _⟩
unfold maxLen;omega
rw [Nat.mul_one,List.take_of_length_le (by simp)]
cases h}
def leB (x y:ByteArray):Bool:=decide (x.data.toList<=y.data.toList)
def Zxd (x:ByteArray):List ByteArray->List ByteArray | []=>[x] | y::l=>if leB x y=true then x::y::l else y::Zxd x l
def Zom:List ByteArray->List ByteArray | []=>[] | x::l=>Zxd x (Zom l)
theorem Zon (a b c:ByteArray) (h:leB a b=true) (k:leB b c=true):leB a c=true:=by
 unfold leB at *
 rw [decide_eq_true_eq] at *
 exact List.le_trans h k
theorem Zoo (a b:ByteArray):(leB a b||leB b a)=true:=by
 unfold leB
 rw [Bool.or_eq_true,decide_eq_true_eq,decide_eq_true_eq]
 exact List.le_total _ _
theorem Zu9 {a b:ByteArray} (h:leB a b=true) (k:leB b a=true):a=b:=by{
unfold leB at *
rw [decide_eq_true_eq] at *
obtain ⟨⟨a⟩⟩:=a
obtain ⟨⟨b⟩⟩:=b
exact congrArg (fun l:List UInt8=>(⟨⟨l⟩⟩:ByteArray)) (List.le_antisymm h k)}
theorem ZkX (x:ByteArray):∀ l:List ByteArray,(Zxd x l).Perm (x::l)
 | []=>.refl _
 | y::l=>by
   unfold Zxd
   split
   exact .refl _
   exact ((ZkX x l).cons y).trans (.swap x y l)
theorem ZkY:∀ l:List ByteArray,(Zom l).Perm l
 | []=>.refl _
 | x::l=>(ZkX x _).trans ((ZkY l).cons x)
theorem Ztb (x:ByteArray):∀ l:List ByteArray,l.Pairwise (fun a b=>leB a b=true)->(Zxd x l).Pairwise fun a b=>leB a b=true
 | [],_=>by simp [Zxd]
 | y::l,h=>by
   unfold Zxd
   have hy:=List.pairwise_cons.1 h
   split
   rename_i hx
   exact List.pairwise_cons.2 ⟨fun z hz=>by
    rcases List.mem_cons.1 hz with rfl | hz
    exact hx
    exact Zon _ _ _ hx (hy.1 z hz),h⟩
   rename_i hx
   refine List.pairwise_cons.2 ⟨fun z hz=>?_,Ztb x l hy.2⟩
   rcases List.mem_cons.1 ((ZkX x l).mem_iff.1 hz) with rfl | hz
   have:=Zoo z y
   simp only [Bool.or_eq_true] at this
   exact this.resolve_left hx
   exact hy.1 z hz
theorem Zop:∀ l:List ByteArray,(Zom l).Pairwise fun a b=>leB a b=true
 | []=>.nil
 | x::l=>Ztb x _ (Zop l)
theorem ZpO (l:List ByteArray):l.mergeSort leB=Zom l:=
 List.Perm.eq_of_pairwise (fun _ _ _ _ h k=>Zu9 h k) (List.pairwise_mergeSort Zon Zoo l) (Zop l) ((List.mergeSort_perm l leB).trans (ZkY l).symm)
def slices_Sort_string (l:List ByteArray):Option (List ByteArray):=if 0<l.length/\l.length<1000000 then some (Zom l) else none
theorem Zva (l:List ByteArray):(l.mergeSort leB).map (fun s=>s.data.toList)=(l.map (fun s=>s.data.toList)).mergeSort fun x y=>decide (x<=y):=by
 rw [List.map_mergeSort]
 intro a _ b _
 rfl
theorem ZyU (l:List ByteArray):l.map Value.string=(l.map fun s=>s.data.toList).map encStr:=by
 rw [List.map_map]
 rfl
theorem Zho (l:List ByteArray) (r:List ByteArray) (h:slices_Sort_string l=some r):ContractM Tryz.prog 94 9 1 (List.map csS l) (List.map csS r):=by{
unfold slices_Sort_string at h
split at h
rename_i hl
injection h with h
rw [<- ZpO] at h
have hk:∀ x:ByteArray,[Value.string x].length=1:=fun _=>rfl
have hpl:∀ l:List ByteArray,Zbc (l.map csS).flatten=some (l.flatMap fun x=>[Value.string x]):=Zdb fun x=>rfl
have hfm:∀ l:List ByteArray,(l.flatMap fun x=>[Value.string x])=(l.map fun s=>s.data.toList).map encStr:=fun l=>by rw [<- ZyU,List.map_eq_flatMap]
have hrl:r.length=l.length:=by rw [<- h,List.length_mergeSort]
refine ⟨by kernel_rfl,fun e he=>?_,fun e he p hp=>?_,by rw [hpl];rfl,fun W v vs hown hvs _=>?_⟩
obtain ⟨x,_,rfl⟩:=List.mem_map.1 he
rfl
obtain ⟨x,_,rfl⟩:=List.mem_map.1 he
simp at hp
rw [hp]
rfl
rw [hpl] at hvs
injection hvs with hvs
subst hvs
rw [List.length_map] at hown
rcases hown.2 with ⟨hn,h0⟩ | ⟨g,cap,cur,hv,hB,hh,h1,h2,h3,ht⟩
omega
subst hv
rw [hfm] at hown ht
have hH:Sort.Holds encStr W g 0 (l.map fun s=>s.data.toList).toArray:=by
 obtain ⟨g',cap',e1,_,_,_,_,_,hH⟩:=holds_of_ownsRow hown (by simp)
 injection e1 with e1
 injection e1 with e1
 injection e1 with e1
 subst e1
 exact hH
have:=Tryz.slices_Sort_string g 0 cap (l.map fun s=>s.data.toList) W hH (Array.getElem?_eq_some_iff.1 hh).1 (by simp;omega)
rw [List.length_map,<- Zva,h] at this
refine Calls.mono this ?_
rintro e w' ⟨rfl,n,os,rfl⟩
have hlt:g<W.heap.size:=(Array.getElem?_eq_some_iff.1 hh).1
obtain ⟨q1,q2⟩:=Lib.ownsRow_putRow (q:=n) (ys:=r.map fun s=>s.data.toList) hown (by rw [List.length_map,hrl]) (Nat.le_refl _)
rcases q2 with ⟨e0,_⟩ | ⟨g',cap',cur',e0,hb',hg',hn',hm',hs',ht'⟩
cases e0
injection e0 with e1 _ e3
injection e1 with e1
injection e1 with e1
subst e1 e3
refine ⟨_,rfl,hpl r,⟨by rw [hfm];simp,.inr ⟨g,cap,cur',by rw [List.length_map,hrl],hb',?_,by rw [List.length_map,hrl];exact hn',hm',hs',?_⟩⟩,rfl,rfl,rfl,by simp [Sort.grow,Sort.putRow,Sort.mapBlock,Sort.ahead],fun b hb hne=>?_⟩
show ((Sort.putRow encStr (Sort.ahead W n) g 0 (r.map fun s=>s.data.toList).toArray).heap++os)[g]? = _
rw [Array.getElem?_append_left (by simpa [Sort.putRow,Sort.mapBlock,Sort.ahead] using hlt)]
exact hg'
rw [List.length_map,hrl,ht',hfm,List.take_of_length_le (by simp [hrl])]
have hgb:g≠b:=fun e=>hne (by rw [e];rfl)
show ((Sort.putRow encStr (Sort.ahead W n) g 0 (r.map fun s=>s.data.toList).toArray).heap++os)[b]? = _
rw [Array.getElem?_append_left (by simpa [Sort.putRow,Sort.mapBlock,Sort.ahead] using hb)]
simp [Sort.putRow,Sort.mapBlock,Sort.ahead,Array.getElem?_modify,hgb]
cases h}
end
section
open VL
def ZdC (p0:Int):Option Bool:=letk (fun (x1:Bool)=>(some x1:Option Bool)) fun k1=>if (decide (p0=32)) then k1 true else k1 (decide (p0=9))
theorem Zj7 (p0:Int) (r:Bool) (h:ZdC p0=some r):Zb Tryz.prog 229 [.int .i32 p0] (.bool r):=by{
refine cF (fun r=>.bool r) h mix Tryz.func229 fun r h=>?_
unfold ZdC at h
refine Zf ?_
refine rg ?_
refine jL h (fun x1=>mkS [(2,.bool x1)] [] 2) (fun k1 h=>?_) fun x1 h=>?_
refine rg ?_
refine kS 5 h rfl (fun h=>?_) fun h=>?_
iterate 2 refine Zg rfl (Zf ?_)
exact jn true h (sR [])
exact jn (decide (p0=9)) h (sR [])
cases h
exact rQ}
def Zf5:Option (List ByteArray):=(some [(⟨#[114,101,97,100]⟩:ByteArray),(⟨#[101,100,105,116]⟩:ByteArray),(⟨#[109,111,118,101]⟩:ByteArray),(⟨#[100,101,108,101,116,101]⟩:ByteArray),(⟨#[114,101,118,105,101,119]⟩:ByteArray)]:Option (List ByteArray))
theorem Zlm  (r:List ByteArray) (h:Zf5=some r):Zb Tryz.prog 230 [] (.sl (List.map csS r)):=by{
refine cF (fun r=>.sl (List.map csS r)) h mix Tryz.func230 fun r h=>?_
unfold Zf5 at h
refine Zf ?_
refine rg ?_
refine rg ?_
refine bM csS ([(⟨#[114,101,97,100]⟩:ByteArray),(⟨#[101,100,105,116]⟩:ByteArray),(⟨#[109,111,118,101]⟩:ByteArray),(⟨#[100,101,108,101,116,101]⟩:ByteArray),(⟨#[114,101,118,105,101,119]⟩:ByteArray)]:List ByteArray) ?_
cases h
exact rQ}
def Zbx (p0:List ByteArray) (p1:ByteArray):Option Int:=ZE Zaq (fun f2 (x10:Int)=>if (decide (x10<(p0.length:Int))) then (atI p0 x10).bind fun e14=>if (decide (p1=e14)) then (some x10:Option Int) else f2 (w64 (x10+1)) else (some (-1):Option Int)) 0
theorem ZdS (p0:List ByteArray) (p1:ByteArray) (r:Int) (h:Zbx p0 p1=some r):Zb Tryz.prog 147 [.sl (List.map csS p0),.str p1] (.int .i64 r):=by{
refine cF (fun r=>.int .i64 r) h mix Tryz.func147 fun r h=>?_
unfold Zbx at h
refine Zf ?_
refine rg ?_
refine rg ?_
refine lM csS p0 ?_
refine bl ?_
refine Zk h fun f2 mf2 hf2 h=>?_
refine Zi (α:=Nat×Int) (fun a _=>mkS [(0,.sl (List.map csS p0)),(1,.str p1),(7,.int .i64 (p0.length:Int)),(8,.int .i64 a.2)] [] 2) (fun a=>ZE a.1 f2 a.2=some r) (fun a=>a.1) (mf2,0) 2 h (sR []) (fun a _ h=>?_)
obtain ⟨mf2,x10⟩:=a
obtain ⟨mf2,rfl,h⟩:=Zl hf2 h
dsimp only at h ⊢
refine Zf ?_
refine rg ?_
refine cS h rfl (fun h=>?_) fun h=>?_
refine bl ?_
refine rg ?_
refine rg ?_
refine aI csS h fun e14 h=>?_
refine cS h rfl (fun h=>?_) fun h=>?_
refine rg ?_
cases h
exact rQ
refine rg ?_
exact rn (mf2,(w64 (x10+1))) h (sR [])
refine rg ?_
cases h
exact rQ}
def Zf6:Option (List ByteArray):=(some [(⟨#[60,77,97,105,110,62]⟩:ByteArray),(⟨#[60,84,97,108,107,62]⟩:ByteArray),(⟨#[60,85,115,101,114,62]⟩:ByteArray),(⟨#[60,84,101,109,112,108,97,116,101,62]⟩:ByteArray),(⟨#[60,67,97,116,101,103,111,114,121,62]⟩:ByteArray),(⟨#[60,80,114,111,106,101,99,116,62]⟩:ByteArray)]:Option (List ByteArray))
theorem Zln  (r:List ByteArray) (h:Zf6=some r):Zb Tryz.prog 231 [] (.sl (List.map csS r)):=by{
refine cF (fun r=>.sl (List.map csS r)) h mix Tryz.func231 fun r h=>?_
unfold Zf6 at h
refine Zf ?_
refine rg ?_
refine rg ?_
refine bM csS ([(⟨#[60,77,97,105,110,62]⟩:ByteArray),(⟨#[60,84,97,108,107,62]⟩:ByteArray),(⟨#[60,85,115,101,114,62]⟩:ByteArray),(⟨#[60,84,101,109,112,108,97,116,101,62]⟩:ByteArray),(⟨#[60,67,97,116,101,103,111,114,121,62]⟩:ByteArray),(⟨#[60,80,114,111,106,101,99,116,62]⟩:ByteArray)]:List ByteArray) ?_
cases h
exact rQ}
def ZdD (p0:ByteArray):Option Bool:=letk (fun (x1:Bool)=>(some x1:Option Bool)) fun k1=>if (decide (p0=(⟨#[97,108,108]⟩:ByteArray))) then k1 true else k1 (decide (p0=(⟨#[117,115,101,114,115]⟩:ByteArray)))
theorem Zgf (p0:ByteArray) (r:Bool) (h:ZdD p0=some r):Zb Tryz.prog 233 [.str p0] (.bool r):=by{
refine cF (fun r=>.bool r) h mix Tryz.func233 fun r h=>?_
unfold ZdD at h
refine Zf ?_
refine rg ?_
refine jL h (fun x1=>mkS [(2,.bool x1)] [] 2) (fun k1 h=>?_) fun x1 h=>?_
refine rg ?_
refine kS 5 h rfl (fun h=>?_) fun h=>?_
iterate 2 refine Zg rfl (Zf ?_)
exact jn true h (sR [])
exact jn (decide (p0=(⟨#[117,115,101,114,115]⟩:ByteArray))) h (sR [])
cases h
exact rQ}
def Zby (p0:Group) (p1:Group):Option Bool:=(some (decide (p0.name=p1.name)):Option Bool)
theorem ZgQ (p0:Group) (p1:Group) (r:Bool) (h:Zby p0 p1=some r):Zb Tryz.prog 235 [p0.pv,.cel [.str p1.name,.sl (List.map csS p1.members)]] (.bool r):=by{
refine cF (fun r=>.bool r) h mix Tryz.func235 fun r h=>?_
unfold Zby at h
refine Zf ?_
refine rg ?_
refine rg ?_
cases h
exact rQ}
def ZbL (p0:List Group) (qf1:Group->Option Bool):Option Int:=ZE Zaq (fun f2 (x18:Int)=>if (decide (x18<(p0.length:Int))) then (atI p0 x18).bind fun e25=>(qf1 e25).bind fun r26=>if r26 then (some x18:Option Int) else f2 (w64 (x18+1)) else (some (-1):Option Int)) 0
theorem ZfC (p0:List Group) (qf1:Group->Option Bool) (fv1:Nat) (Lv1:List (List PV)) (hq1:∀ (y0:Group) (r:Bool),qf1 y0=some r->Zb Tryz.prog fv1 ([y0.pv]++Lv1.map .cel) (.bool r)) (r:Int) (h:ZbL p0 qf1=some r):Zb Tryz.prog 267 [.sl (List.map Group.cs p0),.fn fv1 (Lv1.map .cel)] (.int .i64 r):=by{
refine cF (fun r=>.int .i64 r) h mix Tryz.func267 fun r h=>?_
unfold ZbL at h
refine Zf ?_
refine rg ?_
refine rg ?_
refine lM Group.cs p0 ?_
refine bl ?_
refine Zk h fun f2 mf2 hf2 h=>?_
refine Zi (α:=Nat×Int) (fun a _=>mkS [(0,.sl (List.map Group.cs p0)),(1,.fn fv1 (Lv1.map .cel)),(7,.int .i64 (p0.length:Int)),(8,.int .i64 a.2)] [] 2) (fun a=>ZE a.1 f2 a.2=some r) (fun a=>a.1) (mf2,0) 2 h (Zt [] ⟨rfl,Zij _ _ _,rfl,rfl,trivial⟩ trivial rfl) (fun a _ h=>?_)
obtain ⟨mf2,x18⟩:=a
obtain ⟨mf2,rfl,h⟩:=Zl hf2 h
dsimp only at h ⊢
refine Zf ?_
refine rg ?_
refine cS h rfl (fun h=>?_) fun h=>?_
refine bl ?_
refine rg ?_
refine rg ?_
refine aI Group.cs h fun e25 h=>?_
obtain ⟨r26,h24,h⟩:=bnd h
refine Zgd (args1:=[e25.pv]) (hq1 e25 _ h24) rfl rfl rfl rfl (Zf ?_)
refine cS h rfl (fun h=>?_) fun h=>?_
refine rg ?_
cases h
exact rQ
refine rg ?_
exact rn (mf2,(w64 (x18+1))) h (Zt [] ⟨rfl,Zij _ _ _,rfl,rfl,trivial⟩ trivial rfl)
refine rg ?_
cases h
exact rQ}
def ZaJ (p0:List Group) (qf1:Group->Option Bool):Option Bool:=(ZbL p0 qf1).bind fun r1=>(some (decide (0<=r1)):Option Bool)
theorem ZbU (p0:List Group) (qf1:Group->Option Bool) (fv1:Nat) (Lv1:List (List PV)) (hq1:∀ (y0:Group) (r:Bool),qf1 y0=some r->Zb Tryz.prog fv1 ([y0.pv]++Lv1.map .cel) (.bool r)) (r:Bool) (h:ZaJ p0 qf1=some r):Zb Tryz.prog 234 [.sl (List.map Group.cs p0),.fn fv1 (Lv1.map .cel)] (.bool r):=by{
refine cF (fun r=>.bool r) h mix Tryz.func234 fun r h=>?_
unfold ZaJ at h
refine Zf ?_
refine rg ?_
refine rg ?_
obtain ⟨r1,h1,h⟩:=bnd h
refine Zuq (pre:=[.sl (List.map Group.cs p0)]) (pre':=[.sl (List.map Group.cs p0)]) (ZfC _ qf1 fv1 Lv1 hq1 _ h1) rfl rfl rfl rfl (Zf ?_)
cases h
exact rQ}
def ZcY (p0:Group) (p1:ByteArray):Option Bool:=(some (decide (p0.name=p1)):Option Bool)
theorem Zjw (p0:Group) (p1:ByteArray) (r:Bool) (h:ZcY p0 p1=some r):Zb Tryz.prog 269 [p0.pv,.cel [.str p1]] (.bool r):=by{
refine cF (fun r=>.bool r) h mix Tryz.func269 fun r h=>?_
unfold ZcY at h
refine Zf ?_
refine rg ?_
refine rg ?_
cases h
exact rQ}
def ZcZ (p0:Policy) (p1:ByteArray):Option Bool:=letk (fun (x3:Bool)=>(some x3:Option Bool)) fun k1=>(ZdD p1).bind fun r4=>if r4 then k1 true else (ZaJ p0.groups (fun y0=>ZcY y0 p1)).bind fun r5=>k1 r5
theorem ZeF (p0:Policy) (p1:ByteArray) (r:Bool) (h:ZcZ p0 p1=some r):Zb Tryz.prog 237 [p0.pv,.str p1] (.bool r):=by{
refine cF (fun r=>.bool r) h mix Tryz.func237 fun r h=>?_
unfold ZcZ at h
refine Zf ?_
refine rg ?_
refine jL h (fun x3=>mkS [(4,.bool x3)] [] 2) (fun k1 h=>?_) fun x3 h=>?_
refine rg ?_
refine aC h (Zgf _) fun r4 h=>?_
refine kS 7 h rfl (fun h=>?_) fun h=>?_
iterate 4 refine Zg rfl (Zf ?_)
exact jn true h (sR [])
refine ZjB rfl rfl (Zf ?_)
obtain ⟨r5,h4,h⟩:=bnd h
refine ZiV (ZbU _ (fun y0=>ZcY y0 p1) 269 [[.str p1]] (fun y0 r h=>Zjw y0 p1 r h) _ h4) rfl rfl rfl (Zf ?_)
exact jn r5 h (sR [])
cases h
exact rQ}
def Zbz (p0:List ByteArray) (qf1:ByteArray->Option Bool):Option Int:=ZE Zaq (fun f2 (x18:Int)=>if (decide (x18<(p0.length:Int))) then (atI p0 x18).bind fun e25=>(qf1 e25).bind fun r26=>if r26 then (some x18:Option Int) else f2 (w64 (x18+1)) else (some (-1):Option Int)) 0
theorem Zfb (p0:List ByteArray) (qf1:ByteArray->Option Bool) (fv1:Nat) (Lv1:List (List PV)) (hq1:∀ (y0:ByteArray) (r:Bool),qf1 y0=some r->Zb Tryz.prog fv1 ([.str y0]++Lv1.map .cel) (.bool r)) (r:Int) (h:Zbz p0 qf1=some r):Zb Tryz.prog 148 [.sl (List.map csS p0),.fn fv1 (Lv1.map .cel)] (.int .i64 r):=by{
refine cF (fun r=>.int .i64 r) h mix Tryz.func148 fun r h=>?_
unfold Zbz at h
refine Zf ?_
refine rg ?_
refine rg ?_
refine lM csS p0 ?_
refine bl ?_
refine Zk h fun f2 mf2 hf2 h=>?_
refine Zi (α:=Nat×Int) (fun a _=>mkS [(0,.sl (List.map csS p0)),(1,.fn fv1 (Lv1.map .cel)),(7,.int .i64 (p0.length:Int)),(8,.int .i64 a.2)] [] 2) (fun a=>ZE a.1 f2 a.2=some r) (fun a=>a.1) (mf2,0) 2 h (Zt [] ⟨rfl,Zij _ _ _,rfl,rfl,trivial⟩ trivial rfl) (fun a _ h=>?_)
obtain ⟨mf2,x18⟩:=a
obtain ⟨mf2,rfl,h⟩:=Zl hf2 h
dsimp only at h ⊢
refine Zf ?_
refine rg ?_
refine cS h rfl (fun h=>?_) fun h=>?_
refine bl ?_
refine rg ?_
refine rg ?_
refine aI csS h fun e25 h=>?_
obtain ⟨r26,h24,h⟩:=bnd h
refine Zgd (args1:=[.str e25]) (hq1 e25 _ h24) rfl rfl rfl rfl (Zf ?_)
refine cS h rfl (fun h=>?_) fun h=>?_
refine rg ?_
cases h
exact rQ
refine rg ?_
exact rn (mf2,(w64 (x18+1))) h (Zt [] ⟨rfl,Zij _ _ _,rfl,rfl,trivial⟩ trivial rfl)
refine rg ?_
cases h
exact rQ}
def Zba (p0:List ByteArray) (qf1:ByteArray->Option Bool):Option Bool:=(Zbz p0 qf1).bind fun r1=>(some (decide (0<=r1)):Option Bool)
theorem Zeg (p0:List ByteArray) (qf1:ByteArray->Option Bool) (fv1:Nat) (Lv1:List (List PV)) (hq1:∀ (y0:ByteArray) (r:Bool),qf1 y0=some r->Zb Tryz.prog fv1 ([.str y0]++Lv1.map .cel) (.bool r)) (r:Bool) (h:Zba p0 qf1=some r):Zb Tryz.prog 92 [.sl (List.map csS p0),.fn fv1 (Lv1.map .cel)] (.bool r):=by{
refine cF (fun r=>.bool r) h mix Tryz.func92 fun r h=>?_
unfold Zba at h
refine Zf ?_
refine rg ?_
refine rg ?_
obtain ⟨r1,h1,h⟩:=bnd h
refine Zuq (pre:=[.sl (List.map csS p0)]) (pre':=[.sl (List.map csS p0)]) (Zfb _ qf1 fv1 Lv1 hq1 _ h1) rfl rfl rfl rfl (Zf ?_)
cases h
exact rQ}
end
section
open VL Go.RowKit
def ZfT (s c:ByteArray):Option Int:=match c.data.toList with | [b]=>some (Lib.countByte s.data.toList b) | _=>none
theorem Zk1 (s c:ByteArray) (r:Int) (h:ZfT s c=some r):Zb Tryz.prog 187 [.str s,.str c] (.int .i64 r):=by{
unfold ZfT at h
split at h
rename_i b hb
cases h
obtain rfl:c=⟨#[b]⟩:=by
 obtain ⟨⟨l⟩⟩:=c
 exact congrArg (fun l:List UInt8=>(⟨⟨l⟩⟩:ByteArray)) hb
exact Zac (vals:=[.string s,.string ⟨#[b]⟩]) (by kernel_rfl) rfl rfl (fun x=>.int _ _) fun w _=>(Tryz.strings_Count_one s b w).mono fun e w' ⟨e1,e2⟩=>⟨e1,e2 ▸ Below.refl _ _⟩
cases h}
def strings_Join (L:List ByteArray) (s:ByteArray):Option ByteArray:=if (0<L.length/\L.length<=140737488355328)/\(Lib.join (L.map (·.data.toList)) s.data.toList).length<=140737488355328 then some ⟨(Lib.join (L.map (·.data.toList)) s.data.toList).toArray⟩ else none
theorem ZlM (L:List ByteArray) (s:ByteArray) (r:ByteArray) (h:strings_Join L s=some r):Zb Tryz.prog 280 [.sl (List.map csS L),.str s] (.str r):=by{
unfold strings_Join at h
split at h
rename_i hc
cases h
refine ZdB (by kernel_rfl) rfl (fun x=>.str _) fun x vs hp _=>?_
obtain ⟨v,w,rfl,h1,h2⟩:=args2 hp
obtain rfl:=Znl h2
obtain ⟨A,n,c,rfl,hS⟩:=ZeE hp.flt h1
obtain ⟨q1,q2,q3,q4⟩:=hS
obtain ⟨b,off,css,hA,_,hlt,hx⟩:=q4 (by omega)
subst hA
subst q1
refine Tryz.strings_Join b off c L s x.W (fun j y hy=>?_) hlt hc.1.2 q2 hc.2
obtain ⟨p1,p2⟩:=hx j y hy
have e1:css j = [.string y]:=p1
have:=p2 0 (.string y) (by rw [e1];rfl)
rw [show off+j=off+j * Enc.k ByteArray+0 by show off+j=off+j * 1+0;omega]
exact this
cases h}
def Zmh (n:Nat):Bool:=decide ((n:Int)=32)||decide ((n:Int)=9)
def ZcL (s:ByteArray):Option (List ByteArray):=if s.size<=4294967296/\(Lib.goFieldsP Zmh s).length<=9223372036854775807 then some (Lib.goFieldsP Zmh s) else none
theorem Zvh {f:FuncId} (h:VL.isGo Tryz.prog f=true) (args:Array Value) (w:World):(callFunc f args).run Tryz.prog w = .ok (.enter f args) w:=by{
unfold VL.isGo at h
split at h
rename_i fn hfn
simp only [Bool.and_eq_true,bne_iff_ne,ne_eq] at h
obtain ⟨h1,h2⟩:=h
obtain ⟨b,hb⟩:=Option.isSome_iff_exists.1 h2
simp [callFunc,hfn,h1,hb]
cases h}
theorem ZpR (w:World) (hI:∀ W,Below w.heap.size w W->WInv.I Tryz.prog W):PredGrows Tryz.prog 229 #[] Zmh w:=fun W x hx hb=>by
 have hc:ZdC (x:Int)=some (Zmh x):=by
  unfold ZdC letk Zmh
  dsimp only
  by_cases h:(x:Int)=32
  ·rw [if_pos (decide_eq_true h),decide_eq_true h];rfl
  ·rw [if_neg (by simpa using h),decide_eq_false h];rfl
 refine Zmv (Zj7 x _ hc) (vs:=#[encR x] ++ #[]) rfl (fun i p v hp hv=>?_) fun w' hw=>hI w' (hb.trans (hw.mono hb.size))
 match i,hp,hv with
 | 0,hp,hv=>injection hp with hp;injection hv with hv;subst hp hv;exact .int _ _
 | i+1,hp,_=>simp at hp
theorem Zhq (s:ByteArray) (r:List ByteArray) (h:ZcL s=some r):ContractN Tryz.prog 228 [.str s,.fn 229 []] (.row 9 1 false (List.map csS r)):=by{
unfold ZcL at h
split at h
rename_i hc
injection h with h
subst h
refine Zhu (α:=ByteArray) (vals:=[.string s,.func (.func 229) #[] #[]]) (enc:=fun x=>[.string x]) (by kernel_rfl) (fun x vs hp=>?_) (fun x=>rfl) (fun S w x cs h=>h) (fun x=>rfl) fun w hw=>?_
obtain ⟨v,w,rfl,h1,h2⟩:=args2 hp
obtain rfl:=Znl h1
cases h2 with
| fn _ _ cs hl hh=>
  have:cs = #[]:=Array.eq_empty_of_size_eq_zero hl.symm
  rw [this]
refine (Tryz.strings_FieldsFunc_grows 229 #[] (Zvh (by kernel_rfl)) Zmh s w hc.1 (ZpR w hw)).mono ?_
rintro e w' ⟨A,rfl,hA,hown,hb⟩
exact ⟨_,rfl,OwnL.of_row hown,hb⟩
cases h}
def ZgC (s:ByteArray):Option (Int×ByteArray×Bool):=if s.size<4294967281 then (match Zca s.data.toList with | some q=>some (q.1,⟨q.2.toArray⟩,true) | none=>some (0,⟨#[]⟩,false)) else none
theorem ZAg {x:Ctx} (a:Int) (b:ByteArray) (c:Bool):Rep x (.tup [.int .i64 a,.str b,.bool c]) (.tuple #[.int .i64 a,.string b,.bool c]):=.tup _ _ rfl fun i p v hp hv=>by
 match i,hp,hv with
 | 0,hp,hv=>injection hp with hp;injection hv with hv;subst hp hv;exact .int _ _
 | 1,hp,hv=>injection hp with hp;injection hv with hv;subst hp hv;exact .str _
 | 2,hp,hv=>injection hp with hp;injection hv with hv;subst hp hv;exact .bool _
 | i+3,hp,_=>simp at hp
theorem ZlN (s:ByteArray) (r:Int×ByteArray×Bool) (h:ZgC s=some r):Zb Tryz.prog 84 [.str s] (.tup [.int .i64 r.1,.str r.2.1,.bool r.2.2]):=by{
unfold ZgC at h
split at h
rename_i hc
have hv:Zjd s.data.toList = .tuple #[.int .i64 r.1,.string r.2.1,.bool r.2.2]:=by
 unfold Zjd
 cases hp:Zca s.data.toList with
 | none=>rw [hp] at h;injection h with h;subst h;rfl
 | some q=>rw [hp] at h;injection h with h;subst h;rfl
exact Zac (vals:=[.string s]) (by kernel_rfl) rfl rfl (fun x=>ZAg _ _ _) fun w hw=>by
 rw [<- hv]
 exact Zje s w hc hw.1
cases h}
def strings_genSplit (s c:ByteArray) (a b:Int):Option (List ByteArray):=if (s.size<4294967281/\1<=c.size)/\Lib.countB s c<=1000000/\b = -1/\0<=a/\a<=(c.size:Int) then some (Lib.splitB c a.toNat (Lib.countB s c) s) else none
theorem Zim (s c:ByteArray) (a b:Int) (r:List ByteArray) (h:strings_genSplit s c a b=some r):ContractN Tryz.prog 137 [.str s,.str c,.int .i64 a,.int .i64 b] (.row 9 1 false (List.map csS r)):=by{
unfold strings_genSplit at h
split at h
rename_i hc
obtain ⟨⟨h1,h2⟩,h3,rfl,h5,h6⟩:=hc
obtain ⟨sv,rfl⟩:∃ sv:Nat,a=(sv:Int):=⟨a.toNat,by omega⟩
rw [Int.toNat_natCast] at h
injection h with h
have hlen:r.length=Lib.countB s c+1:=by rw [<- h];exact Lib.splitB_all c h2 sv _ s rfl
have hle:=Lib.countB_le c h2 s.size s (Nat.le_refl _)
refine Zeb (α:=ByteArray) (vals:=[.string s,.string c,.int .i64 (sv:Int),.int .i64 (-1)]) (enc:=fun x=>[.string x]) (by kernel_rfl) rfl (fun x=>rfl) (fun S w x cs h=>h) (fun x=>rfl) fun w hw=>?_
obtain ⟨m,hm⟩:=hw.1
refine (Tryz.strings_genSplit s c sv (-1) (Lib.countB s c+1) m w h1 hm h2 (by omega) (by decide) (by decide) (by rw [if_pos (by decide)];omega)).mono ?_
rintro e w' ⟨rfl,rfl⟩
rw [Nat.add_sub_cancel,h]
have e2:Lib.cellsOf r (Lib.countB s c+1)=(r.map Value.string).toArray:=by rw [<- hlen];exact Lib.cellsOf_full _
rw [e2,hlen]
refine ⟨_,rfl,OwnL.of_row ⟨by simp,.inr ⟨w.heap.size,r.length,_,by rw [hlen],Nat.le_refl _,heap_alloc_new w _,Nat.le_refl _,?_,by simp,?_⟩⟩,Below.al (Below.refl _ _) _⟩
unfold maxLen;omega
rw [Nat.mul_one,List.take_of_length_le (by simp)]
cases h}
end
end Go.Proofs.YtpdaeclbndpabaaGreatDoor
