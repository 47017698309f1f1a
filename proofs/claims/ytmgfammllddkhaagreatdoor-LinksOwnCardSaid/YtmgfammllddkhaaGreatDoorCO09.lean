/- strings.Trim at a set of ASCII bytes. | strings.Trim and -/
import Derived.Test.YtmgfammllddkhaaGreatDoorCO08
set_option linter.unusedSimpArgs false
set_option maxRecDepth 1000000
set_option maxHeartbeats 4000000
namespace Go.Proofs.YtmgfammllddkhaaGreatDoor
section
open VL Go.RowKit
def T8 (l:Q3 Q4):Q3 Bool:=(List.range 256).map fun j=>l.contains (UInt8.ofNat j)
def B7 (l:Q3 Q4):Q3 PV:=(T8 l).map PV.bool
theorem WM (l:Q3 Q4):(B7 l).length=256:=by simp [B7,T8]
theorem Zyi (l:Q3 Q4) (x:Q4):(B7 l)[x.toNat]? = some (.bool (l.contains x)):=by{
have hx:x.toNat<256:=x.toNat_lt
unfold B7 T8
rw [Yw,Yw,UK hx]
simp}
theorem ZuA (l:Q3 Q4) (x:Q4):K2 false 1 ((B7 l).drop (x.toNat * 1))=some (.bool (l.contains x)):=by
 show ((B7 l).drop (x.toNat * 1))[0]? = _
 rw [G1,Nat.mul_one,EO]
 exact Zyi l x
theorem dJ {f:Nat->Q2 (Gen×VObj)} {t:Nat} {g:Gen} {l:Q3 Q4} (h:A6 f t g=some (.box (B7 l))) (s:Q1):BH (frz f) [.str s,.ptr t g 0]=some [.str s,.cel (B7 l)]:=by{
have e:FM f (.ptr t g 0)=some (.cel (B7 l)):=by
 simp only [FM,h,MK]
 unfold B7
 rw [iM]
 rfl
simp only [BH,frz,FL,e]}
instance:Ar Tryz.prog 131 256 1:=⟨by kernel_rfl⟩
instance:Ze Tryz.prog 131 (List.replicate 256 (.bool false)):=⟨by kernel_rfl⟩
instance:Ld Tryz.prog 131 true 256:=⟨by kernel_rfl⟩
theorem m7 (l:Q3 Q4) (x:Q4):Zg Tryz.prog 99 [.cel (B7 l),.int .u8 (x.toNat:Int)] (.bool (l.contains x)):=by
 refine LD mix Tryz.func99 (by kernel_rfl) rfl (by kernel_rfl) ?_
 repeat (first | (refine iL rfl rfl ?_) | (refine vC rfl rfl rfl x.toNat_lt ?_) | (refine ZJ rfl rfl (ZuA l x) ?_) | refine C5 ?_)
 exact FK rfl rfl rfl
def DY (l:Q3 Q4) (s:Q1):Q1:=⟨(s.data.toList.dropWhile l.contains).toArray⟩
def F5 (l:Q3 Q4) (s:Q1):Q1:=⟨(s.data.toList.reverse.dropWhile l.contains).reverse.toArray⟩
theorem ZuC {l:Q3 Q4} {s:Q1} (h:¬ 0<s.size):DY l s=s:=by{
obtain ⟨⟨d⟩⟩:=s
cases d with
| nil=>rfl
| cons a r=>exact absurd (RQ _) h}
theorem Zsc {l:Q3 Q4} {s:Q1} (h:0<s.size) (h1:l.contains (s[0]'h)=false):DY l s=s:=by{
obtain ⟨⟨d⟩⟩:=s
cases d with
| nil=>exact absurd h (JV 0)
| cons a r=>
  have h2:l.contains a=false:=h1
  show (⟨(List.dropWhile l.contains (a::r)).toArray⟩:Q1)=⟨(a::r).toArray⟩
  rw [IA,if_neg (by rw [h2];simp)]}
theorem Zsd {l:Q3 Q4} {s:Q1} (h:0<s.size) (h1:l.contains (s[0]'h)=true):DY l (s.extract 1 s.size)=DY l s:=by{
obtain ⟨⟨d⟩⟩:=s
cases d with
| nil=>exact absurd h (JV 0)
| cons a r=>
  have h2:l.contains a=true:=h1
  have e:(⟨(a::r).toArray⟩:Q1).extract 1 (a::r).length=⟨(((a::r).drop 1).take ((a::r).length-1)).toArray⟩:=ByteArray.extract_mk (a::r) 1 (a::r).length
  show DY l ((⟨(a::r).toArray⟩:Q1).extract 1 (a::r).length)=_
  rw [e]
  show (⟨(List.dropWhile l.contains (((a::r).drop 1).take ((a::r).length-1))).toArray⟩:Q1)=⟨(List.dropWhile l.contains (a::r)).toArray⟩
  rw [IA,if_pos h2]
  simp}
theorem ZuD {l:Q3 Q4} {s:Q1} (h:¬ 0<s.size):F5 l s=s:=by{
obtain ⟨⟨d⟩⟩:=s
cases d with
| nil=>rfl
| cons a r=>exact absurd (RQ _) h}
theorem m8 (s:Q1) (n:Nat) (hn:s.size=n+1):∃ r:Q3 Q4,s.data.toList=r ++ [s[n]'(by omega)]/\r.length=n/\s.extract 0 n=⟨r.toArray⟩:=by{
obtain ⟨⟨d⟩⟩:=s
have hd:d.length=n+1:=hn
refine ⟨d.take n,?_,by simp;omega,?_⟩
show d=d.take n ++ [d[n]]
rw [List.take_append_getElem,H4 (by omega)]
have e:(⟨d.toArray⟩:Q1).extract 0 n=⟨((d.drop 0).take (n-0)).toArray⟩:=ByteArray.extract_mk d 0 n
show (⟨d.toArray⟩:Q1).extract 0 n=_
rw [e]
simp}
theorem Zse {l:Q3 Q4} {s:Q1} {n:Nat} (hn:s.size=n+1) (h1:l.contains (s[n]'(by omega))=false):F5 l s=s:=by{
obtain ⟨r,e1,_,_⟩:=m8 s n hn
unfold F5
rw [e1,O9]
simp only [RL,UN,H7,FG,List.dropWhile,h1]
rw [List.reverse_reverse,<- e1]}
theorem Zsf {l:Q3 Q4} {s:Q1} {n:Nat} (hn:s.size=n+1) (h1:l.contains (s[n]'(by omega))=true):F5 l (s.extract 0 n)=F5 l s:=by{
obtain ⟨r,e1,_,e3⟩:=m8 s n hn
unfold F5
rw [e1,e3,O9]
simp only [RL,UN,H7,FG,List.dropWhile,h1]}
theorem dK (l:Q3 Q4) (s:Q1):Zg Tryz.prog 86 [.str s,.cel (B7 l)] (.str (DY l s)):=by{
refine LD mix Tryz.func86 (by kernel_rfl) rfl (by kernel_rfl) ?_
repeat (first | refine C5 ?_)
refine Zu (α:=Q1) (fun c _=>mkS [(0,.str c),(1,.cel (B7 l))] [] 2) (fun c=>DY l c=DY l s) (fun c=>c.size) s 2 rfl (OV [] ⟨rfl,rfl,trivial⟩ trivial rfl) (fun c _ (hno:DY l c=DY l s)=>?_)
repeat (first | refine C5 ?_ | refine IG Tryz.underlying9 rfl rfl ?_)
by_cases hz:(0:Int)<(c.size:Int)
·refine Zv (by (conv=>lhs;whnf);try rfl) (Yh hz) ?_
 have hz':0<c.size:=by omega
 have h0:c[0]? = some (c[0]'hz'):=getElem?_pos c 0 hz'
 repeat (first | (refine b7 Tryz.underlying9 rfl rfl rfl h0 ?_) | (refine N0 (m7 l _) rfl rfl rfl ?_) | refine C5 ?_)
 rcases Bool.eq_false_or_eq_true (l.contains (c[0]'hz')) with hb | hb
 ·refine Zk (by (conv=>lhs;whnf);try rfl) (by rw [hb];rfl) ?_
  repeat (first | (refine b8 Tryz.underlying9 rfl rfl rfl rfl (by omega) (by omega) rfl ?_) | refine C5 ?_)
  refine C6 (c.extract 1 c.size) 2 ((Zsd hz' hb).trans hno) ?_ (OV [] ⟨rfl,rfl,trivial⟩ trivial rfl)
  show (c.extract 1 c.size).size<c.size
  rw [FE]
  omega
 ·refine Zv (by (conv=>lhs;whnf);try rfl) (by rw [hb];rfl) ?_
  repeat (first | refine C5 ?_)
  exact FK rfl rfl (by rw [<- hno,Zsc hz' hb];rfl)
·refine Zk (by (conv=>lhs;whnf);try rfl) (Yf hz) ?_
 repeat (first | refine C5 ?_)
 exact FK rfl rfl (by rw [<- hno,ZuC (by omega)];rfl)}
theorem ZoZ (l:Q3 Q4) (s:Q1) (hs:s.size<=9223372036854775807):Zg Tryz.prog 210 [.str s,.cel (B7 l)] (.str (F5 l s)):=by{
refine LD mix Tryz.func210 (by kernel_rfl) rfl (by kernel_rfl) ?_
repeat (first | refine C5 ?_)
refine Zu (α:=Q1) (fun c _=>mkS [(0,.str c),(1,.cel (B7 l))] [] 2) (fun c=>F5 l c=F5 l s/\c.size<=9223372036854775807) (fun c=>c.size) s 2 ⟨rfl,hs⟩ (OV [] ⟨rfl,rfl,trivial⟩ trivial rfl) (fun c _ hJ=>?_)
obtain ⟨(hno:F5 l c=F5 l s),(hcs:c.size<=9223372036854775807)⟩:=hJ
repeat (first | refine C5 ?_ | refine IG Tryz.underlying9 rfl rfl ?_)
by_cases hz:(0:Int)<(c.size:Int)
·refine Zv (by (conv=>lhs;whnf);try rfl) (Yh hz) ?_
 obtain ⟨n,hn⟩:∃ n,c.size=n+1:=⟨c.size-1,by omega⟩
 have e1:(c.size:Int)-1=(n:Int):=by omega
 have h0:c[n]? = some (c[n]'(by omega)):=getElem?_pos c n (by omega)
 have h2:toNat? (PV.int .i64 ((c.size:Int)-1))=some n:=by rw [e1];exact K3
 repeat (first | (refine b7 Tryz.underlying9 rfl rfl (CA (PV.int .i64) e1) h0 ?_) | (refine N0 (m7 l _) rfl rfl rfl ?_) | refine K4 rfl rfl rfl (by omega) (by omega) ?_ | refine C5 ?_ | refine IG Tryz.underlying9 rfl rfl ?_)
 rcases Bool.eq_false_or_eq_true (l.contains (c[n]'(by omega))) with hb | hb
 ·refine Zk (by (conv=>lhs;whnf);try rfl) (by rw [hb];rfl) ?_
  repeat (first | (refine b8 Tryz.underlying9 rfl rfl rfl h2 (by omega) (by omega) rfl ?_) | refine K4 rfl rfl rfl (by omega) (by omega) ?_ | refine C5 ?_ | refine IG Tryz.underlying9 rfl rfl ?_)
  refine C6 (c.extract 0 n) 2 ⟨(Zsf hn hb).trans hno,?_⟩ ?_ (OV [] ⟨rfl,rfl,trivial⟩ trivial rfl)
  show (c.extract 0 n).size<=_
  rw [FE]
  omega
  show (c.extract 0 n).size<c.size
  rw [FE]
  omega
 ·refine Zv (by (conv=>lhs;whnf);try rfl) (by rw [hb];rfl) ?_
  repeat (first | refine C5 ?_)
  exact FK rfl rfl (by rw [<- hno,Zse hn hb];rfl)
·refine Zk (by (conv=>lhs;whnf);try rfl) (Yf hz) ?_
 repeat (first | refine C5 ?_)
 exact FK rfl rfl (by rw [<- hno,ZuD (by omega)];rfl)}
theorem ZnG (l:Q3 Q4):(Lib.setCells l).toList=(T8 l).map Value.bool:=by
 rw [Lib.setCells_eq]
 simp [T8]
theorem dL (l:Q3 Q4) (hs:l.length<4294967281) (hl:∀ (j:Nat) b,l[j]? = some b->b.toNat<128):Zg Tryz.prog 85 [.str ⟨l.toArray⟩] (.tup [.agg (B7 l),.bool true]):=
 HC (vals:=[.string ⟨l.toArray⟩]) (v:=.tuple #[.agg (Lib.setCells l),.bool true]) (by kernel_rfl) rfl (by
   show (PV.dry2 (.agg (B7 l))&&(PV.dry2 (.bool true)&&true))=true
   have:(B7 l).all PV.dry1=true:=by
    rw [Yq]
    intro p hp
    obtain ⟨b,_,rfl⟩:=Yy.1 hp
    rfl
   show ((B7 l).all PV.dry1&&_)=true
   rw [this]
   rfl)
  (fun x=>.tup _ _ rfl fun i p v hp hv=>by
   match i,hp,hv with
   | 0,hp,hv=>
     injection hp with hp
     injection hv with hv
     subst hp hv
     refine .agg _ _ (by rw [WM,Lib.setCells_size]) fun j q w hq hw=>?_
     rw [<- GJ,ZnG,Yw,Ye] at hw
     obtain ⟨b,hb,rfl⟩:=hw
     unfold B7 at hq
     rw [Yw,hb] at hq
     injection hq with hq
     subst hq
     exact .bool b
   | 1,hp,hv=>injection hp with hp;injection hv with hv;subst hp hv;exact .bool _
   | i+2,hp,_=>simp at hp)
  fun w _=>(Tryz.strings_makeASCIISet (fun w=>Tryz.zeroValue131 w) ⟨l.toArray⟩ w hs (fun j b h=>hl j b (by simpa using h))).mono fun e w' ⟨e1,e2⟩=>by
   have e3:(⟨l.toArray⟩:Q1).data.toList=l:=by simp
   rw [e3] at e1 e2
   exact ⟨e1,by rw [e2];exact Below.al (Below.refl _ _) _⟩
def cutW:Q3 Q4:=[9,10,13,32]
theorem ZxZ (s:Q1) (hs:s.size<=9223372036854775807):Zg Tryz.prog 177 [.str s,.str ⟨#[9,10,13,32]⟩] (.str (DY cutW (F5 cutW s))):=by{
have hm:=dL cutW (by decide) (fun j b h=>by
 match j,h with
 | 0,h=>injection h with h;subst h;decide
 | 1,h=>injection h with h;subst h;decide
 | 2,h=>injection h with h;subst h;decide
 | 3,h=>injection h with h;subst h;decide
 | j+4,h=>simp [cutW] at h)
have hR:=ZoZ cutW s hs
have hL:=dK cutW (F5 cutW s)
have ha:∀ {f:Nat->Q2 (Gen×VObj)} {t:Nat} {g:Gen},A6 f t g=some (.box (B7 cutW))->∀ s,BH (frz f) [.str s,.ptr t g 0]=some [.str s,.cel (B7 cutW)]:=fun h s=>dJ h s
have hspc:(B7 cutW).all PV.cell=true:=by
 rw [Yq]
 intro p hp
 obtain ⟨b,_,rfl⟩:=Yy.1 hp
 rfl
have hsl:(B7 cutW).length=256:=WM _
have hrc:(List.replicate 256 (PV.bool false)).all PV.cell=true:=by
 rw [Yq]
 intro p hp
 rw [YW hp]
 rfl
have hrl:(List.replicate 256 (PV.bool false)).length=256:=MF
generalize B7 cutW=sp at hm hR hL ha hspc hsl
generalize hz:List.replicate 256 (PV.bool false)=zp at hrc hrl
have zi:Ze Tryz.prog 131 zp:=hz ▸ inferInstance
refine LD mix Tryz.func177 (by kernel_rfl) rfl (by kernel_rfl) ?_
repeat (first | refine Zr rfl (by (conv=>lhs;whnf);try rfl) ?_ | refine Zs rfl (by (conv=>lhs;whnf);try rfl) ?_ | refine HA rfl rfl rfl rfl (by (conv=>lhs;whnf);try rfl) ?_ | refine Zf ?_ | refine Zl ?_ | refine Zb ?_)
by_cases h0:s=⟨#[]⟩
·rw [Yh h0]
 repeat (first | (refine Zw rfl ?_) | refine B5 rfl rfl (by (conv=>lhs;whnf);try rfl) ?_ | refine Zf ?_)
 refine Zv (by (conv=>lhs;whnf);try rfl) rfl ?_
 repeat (first | refine Zr rfl (by (conv=>lhs;whnf);try rfl) ?_ | refine Zs rfl (by (conv=>lhs;whnf);try rfl) ?_ | refine Zf ?_ | refine Zl ?_ | refine Zb ?_ | refine CI ?_)
 exact FK rfl rfl (by rw [h0];rfl)
rw [Yf h0]
repeat (first | refine Zr rfl (by (conv=>lhs;whnf);try rfl) ?_ | refine HA rfl rfl rfl rfl (by (conv=>lhs;whnf);try rfl) ?_ | refine B5 rfl rfl (by (conv=>lhs;whnf);try rfl) ?_ | refine Zf ?_)
refine Zk (by (conv=>lhs;whnf);try rfl) (by decide) ?_
repeat (first | (refine Zw rfl ?_) | (refine Zk rfl rfl ?_) | (refine DW hm rfl rfl ?_) | (refine GR (z:=zp) rfl hrc ?_) | (refine BS (ps:=sp) (cs:=zp) (cs':=sp) rfl rfl rfl rfl rfl hsl hspc (show 0+256<=zp.length by omega) (bN (show zp.length=sp.length by omega)) ?_) | (refine Zv rfl rfl ?_) | (refine N0 hR rfl (ha rfl _) rfl ?_) | (refine N0 hL rfl (ha rfl _) rfl ?_) | refine Zr rfl (by (conv=>lhs;whnf);try rfl) ?_ | refine Zs rfl (by (conv=>lhs;whnf);try rfl) ?_ | refine A7 rfl rfl rfl rfl (by (conv=>lhs;whnf);try rfl) ?_ | refine IG Tryz.underlying9 rfl rfl ?_ | refine OT rfl rfl rfl ?_ | refine B5 rfl rfl (by (conv=>lhs;whnf);try rfl) ?_ | refine Zf ?_ | refine Zl ?_ | refine Zb ?_ | refine ZH ?_ | refine CI ?_)
exact FK rfl rfl rfl}
def cutB:Q3 Q4:=[32,9]
theorem Zx0 (s:Q1):Zg Tryz.prog 48 [.str s,.str ⟨#[32,9]⟩] (.str (DY cutB s)):=by{
have hm:=dL cutB (by decide) (fun j b h=>by
 match j,h with
 | 0,h=>injection h with h;subst h;decide
 | 1,h=>injection h with h;subst h;decide
 | j+2,h=>simp [cutB] at h)
have hL:=dK cutB s
have ha:∀ {f:Nat->Q2 (Gen×VObj)} {t:Nat} {g:Gen},A6 f t g=some (.box (B7 cutB))->∀ s,BH (frz f) [.str s,.ptr t g 0]=some [.str s,.cel (B7 cutB)]:=fun h s=>dJ h s
have hspc:(B7 cutB).all PV.cell=true:=by
 rw [Yq]
 intro p hp
 obtain ⟨b,_,rfl⟩:=Yy.1 hp
 rfl
have hsl:(B7 cutB).length=256:=WM _
have hrc:(List.replicate 256 (PV.bool false)).all PV.cell=true:=by
 rw [Yq]
 intro p hp
 rw [YW hp]
 rfl
have hrl:(List.replicate 256 (PV.bool false)).length=256:=MF
generalize B7 cutB=sp at hm hL ha hspc hsl
generalize hz:List.replicate 256 (PV.bool false)=zp at hrc hrl
have zi:Ze Tryz.prog 131 zp:=hz ▸ inferInstance
refine LD mix Tryz.func48 (by kernel_rfl) rfl (by kernel_rfl) ?_
repeat (first | refine Zr rfl (by (conv=>lhs;whnf);try rfl) ?_ | refine Zs rfl (by (conv=>lhs;whnf);try rfl) ?_ | refine HA rfl rfl rfl rfl (by (conv=>lhs;whnf);try rfl) ?_ | refine Zf ?_ | refine Zl ?_ | refine Zb ?_)
by_cases h0:s=⟨#[]⟩
·rw [Yh h0]
 repeat (first | (refine Zw rfl ?_) | refine B5 rfl rfl (by (conv=>lhs;whnf);try rfl) ?_ | refine Zf ?_)
 refine Zv (by (conv=>lhs;whnf);try rfl) rfl ?_
 repeat (first | refine Zr rfl (by (conv=>lhs;whnf);try rfl) ?_ | refine Zs rfl (by (conv=>lhs;whnf);try rfl) ?_ | refine Zf ?_ | refine Zl ?_ | refine Zb ?_ | refine CI ?_)
 exact FK rfl rfl (by rw [h0];rfl)
rw [Yf h0]
repeat (first | refine Zr rfl (by (conv=>lhs;whnf);try rfl) ?_ | refine HA rfl rfl rfl rfl (by (conv=>lhs;whnf);try rfl) ?_ | refine B5 rfl rfl (by (conv=>lhs;whnf);try rfl) ?_ | refine Zf ?_)
refine Zk (by (conv=>lhs;whnf);try rfl) (by decide) ?_
repeat (first | (refine Zw rfl ?_) | (refine Zk rfl rfl ?_) | (refine DW hm rfl rfl ?_) | (refine GR (z:=zp) rfl hrc ?_) | (refine BS (ps:=sp) (cs:=zp) (cs':=sp) rfl rfl rfl rfl rfl hsl hspc (show 0+256<=zp.length by omega) (bN (show zp.length=sp.length by omega)) ?_) | (refine Zv rfl rfl ?_) | (refine N0 hL rfl (ha rfl _) rfl ?_) | refine Zr rfl (by (conv=>lhs;whnf);try rfl) ?_ | refine Zs rfl (by (conv=>lhs;whnf);try rfl) ?_ | refine A7 rfl rfl rfl rfl (by (conv=>lhs;whnf);try rfl) ?_ | refine IG Tryz.underlying9 rfl rfl ?_ | refine OT rfl rfl rfl ?_ | refine B5 rfl rfl (by (conv=>lhs;whnf);try rfl) ?_ | refine Zf ?_ | refine Zl ?_ | refine Zb ?_ | refine ZH ?_ | refine CI ?_)
exact FK rfl rfl rfl}
def cutU:Q3 Q4:=[9,32,95]
theorem Zx1 (s:Q1):Zg Tryz.prog 48 [.str s,.str ⟨#[9,32,95]⟩] (.str (DY cutU s)):=by{
have hm:=dL cutU (by decide) (fun j b h=>by
 match j,h with
 | 0,h=>injection h with h;subst h;decide
 | 1,h=>injection h with h;subst h;decide
 | 2,h=>injection h with h;subst h;decide
 | j+3,h=>simp [cutU] at h)
have hL:=dK cutU s
have ha:∀ {f:Nat->Q2 (Gen×VObj)} {t:Nat} {g:Gen},A6 f t g=some (.box (B7 cutU))->∀ s,BH (frz f) [.str s,.ptr t g 0]=some [.str s,.cel (B7 cutU)]:=fun h s=>dJ h s
have hspc:(B7 cutU).all PV.cell=true:=by
 rw [Yq]
 intro p hp
 obtain ⟨b,_,rfl⟩:=Yy.1 hp
 rfl
have hsl:(B7 cutU).length=256:=WM _
have hrc:(List.replicate 256 (PV.bool false)).all PV.cell=true:=by
 rw [Yq]
 intro p hp
 rw [YW hp]
 rfl
have hrl:(List.replicate 256 (PV.bool false)).length=256:=MF
generalize B7 cutU=sp at hm hL ha hspc hsl
generalize hz:List.replicate 256 (PV.bool false)=zp at hrc hrl
have zi:Ze Tryz.prog 131 zp:=hz ▸ inferInstance
refine LD mix Tryz.func48 (by kernel_rfl) rfl (by kernel_rfl) ?_
repeat (first | refine Zr rfl (by (conv=>lhs;whnf);try rfl) ?_ | refine Zs rfl (by (conv=>lhs;whnf);try rfl) ?_ | refine HA rfl rfl rfl rfl (by (conv=>lhs;whnf);try rfl) ?_ | refine Zf ?_ | refine Zl ?_ | refine Zb ?_)
by_cases h0:s=⟨#[]⟩
·rw [Yh h0]
 repeat (first | (refine Zw rfl ?_) | refine B5 rfl rfl (by (conv=>lhs;whnf);try rfl) ?_ | refine Zf ?_)
 refine Zv (by (conv=>lhs;whnf);try rfl) rfl ?_
 repeat (first | refine Zr rfl (by (conv=>lhs;whnf);try rfl) ?_ | refine Zs rfl (by (conv=>lhs;whnf);try rfl) ?_ | refine Zf ?_ | refine Zl ?_ | refine Zb ?_ | refine CI ?_)
 exact FK rfl rfl (by rw [h0];rfl)
rw [Yf h0]
repeat (first | refine Zr rfl (by (conv=>lhs;whnf);try rfl) ?_ | refine HA rfl rfl rfl rfl (by (conv=>lhs;whnf);try rfl) ?_ | refine B5 rfl rfl (by (conv=>lhs;whnf);try rfl) ?_ | refine Zf ?_)
refine Zk (by (conv=>lhs;whnf);try rfl) (by decide) ?_
repeat (first | (refine Zw rfl ?_) | (refine Zk rfl rfl ?_) | (refine DW hm rfl rfl ?_) | (refine GR (z:=zp) rfl hrc ?_) | (refine BS (ps:=sp) (cs:=zp) (cs':=sp) rfl rfl rfl rfl rfl hsl hspc (show 0+256<=zp.length by omega) (bN (show zp.length=sp.length by omega)) ?_) | (refine Zv rfl rfl ?_) | (refine N0 hL rfl (ha rfl _) rfl ?_) | refine Zr rfl (by (conv=>lhs;whnf);try rfl) ?_ | refine Zs rfl (by (conv=>lhs;whnf);try rfl) ?_ | refine A7 rfl rfl rfl rfl (by (conv=>lhs;whnf);try rfl) ?_ | refine IG Tryz.underlying9 rfl rfl ?_ | refine OT rfl rfl rfl ?_ | refine B5 rfl rfl (by (conv=>lhs;whnf);try rfl) ?_ | refine Zf ?_ | refine Zl ?_ | refine Zb ?_ | refine ZH ?_ | refine CI ?_)
exact FK rfl rfl rfl}
def T9 (s c:Q1):Q2 Q1:=if s.size<=9223372036854775807/\c=⟨#[9,10,13,32]⟩ then some (DY cutW (F5 cutW s)) else none
theorem Zlp (s c:Q1) (r:Q1) (h:T9 s c=some r):Zg Tryz.prog 177 [.str s,.str c] (.str r):=by{
unfold T9 at h
split at h
rename_i hc
cases h
rw [hc.2]
exact ZxZ s hc.1
cases h}
def LV (s c:Q1):Q2 Q1:=if c=⟨#[32,9]⟩ then some (DY cutB s) else if c=⟨#[9,32,95]⟩ then some (DY cutU s) else none
theorem m9 (s c:Q1) (r:Q1) (h:LV s c=some r):Zg Tryz.prog 48 [.str s,.str c] (.str r):=by{
unfold LV at h
split at h
rename_i hc
cases h
rw [hc]
exact Zx0 s
split at h
rename_i hc
cases h
rw [hc]
exact Zx1 s
cases h}
end
end Go.Proofs.YtmgfammllddkhaaGreatDoor
