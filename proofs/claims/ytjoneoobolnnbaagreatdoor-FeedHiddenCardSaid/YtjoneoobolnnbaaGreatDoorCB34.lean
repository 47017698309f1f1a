/- The lines of the made policies, by the reference. No program is named. -/
import Derived.Test.YtjoneoobolnnbaaGreatDoorCB32
import Derived.Test.YtjoneoobolnnbaaGreatDoorCB33
import Derived.Test.YtjoneoobolnnbaaGreatDoorCB21
import Derived.Test.YtjoneoobolnnbaaGreatDoorCB14
import Derived.Test.YtjoneoobolnnbaaGreatDoorCB15
import Derived.Test.YtjoneoobolnnbaaGreatDoorCB05
import Derived.Test.YtjoneoobolnnbaaGreatDoorCB06
import Derived.Test.YtjoneoobolnnbaaGreatDoorCB04
import Derived.Test.YtjoneoobolnnbaaGreatDoorCB36
import Derived.Test.YtjoneoobolnnbaaGreatDoorCB01
import Derived.ProofKit
import Derived.OpenShut
import Derived.Deep.Slices
import Derived.Deep.Strs
import Derived.Test.YtjoneoobolnnbaaGreatDoorRows
import Derived.Test.YtjoneoobolnnbaaGreatDoorCB02
import Derived.Test.YtjoneoobolnnbaaGreatDoorCB08
import Derived.MakeChecks
import Derived.FnData
import Derived.ChangeSame
set_option maxRecDepth 100000
set_option maxHeartbeats 1000000
namespace Go.Proofs.YtjoneoobolnnbaaGreatDoor
theorem Zql:Zr polS0 ⟨#[97,108,108,111,119,32,114,101,97,100,32,97,108,108,32,60,97,108,108,62]⟩=some (polS1,true):=by kernel_rfl
theorem Zqm:Zr polS3 ⟨#[97,108,108,111,119,32,100,101,108,101,116,101,32,97,108,108,32,60,97,108,108,62]⟩=some (polS4,true):=by kernel_rfl
theorem ZwC:Zr polS5 ⟨#[103,114,111,117,112,32,115,116,97,102,102,32,97,110,110]⟩=some (polS6,true):=by kernel_rfl
theorem Zzr:Zr Zne ⟨#[]⟩=some (Zne,true):=by kernel_rfl
theorem Zyg:Zr polS10 ⟨#[103,117,97,114,100,32,115,116,97,102,102,32,66]⟩=some (ZiS,true):=by kernel_rfl
theorem Zyh:Zr polS12 ⟨#[103,114,111,117,112,32,109,111,114,101,32,98,111,98]⟩=some (polS13,true):=by kernel_rfl
theorem Zyi:Zr polS15 ⟨#[97,108,108,111,119,32,114,101,97,100,32,97,108,108,32,60,67,97,116,101,103,111,114,121,62]⟩=some (polS16,true):=by kernel_rfl
theorem Zyj:Zr polS18 ⟨#[97,108,108,111,119,32,114,101,118,105,101,119,32,115,116,97,102,102,32,60,97,108,108,62]⟩=some (polS19,true):=by kernel_rfl
theorem Zyk:Zr polS21 ⟨#[97,108,108,111,119,32,114,101,97,100,32,115,116,97,102,102,32,60,97,108,108,62]⟩=some (polS22,true):=by kernel_rfl
theorem Zyl:Zr polS5 ⟨#[100,101,110,121,32,114,101,97,100,32,97,108,108,32,66]⟩=some (polS24,true):=by kernel_rfl
theorem Zym:Zr polS5 ⟨#[100,101,110,121,32,101,100,105,116,32,97,108,108,32,66]⟩=some (polS26,true):=by kernel_rfl
theorem Zyn:Zr polS6 ⟨#[100,101,110,121,32,114,101,118,105,101,119,32,97,108,108,32,60,97,108,108,62]⟩=some (polS28,true):=by kernel_rfl
theorem Zyo:Zr polS30 ⟨#[103,117,97,114,100,32,115,116,97,102,102,32,68]⟩=some (ZiW,true):=by kernel_rfl
theorem Zrt:Zr polS1 ⟨#[97,108,108,111,119,32,101,100,105,116,32,97,108,108,32,60,97,108,108,62]⟩=some (polS2,true):=by kernel_rfl
theorem Zru:Zr polS4 ⟨#[97,108,108,111,119,32,114,101,118,105,101,119,32,97,108,108,32,60,97,108,108,62]⟩=some (polS5,true):=by kernel_rfl
theorem ZzH:Zr polS6 ⟨#[100,101,110,121,32,114,101,97,100,32,97,108,108,32,65]⟩=some (polS7,true):=by kernel_rfl
theorem Zy6:Zr polS6 ⟨#[103,117,97,114,100,32,115,116,97,102,102,32,65,32,124,32,83]⟩=some (polS9,true):=by kernel_rfl
theorem Zy7:Zr ZiS ⟨#[]⟩=some (ZiS,true):=by kernel_rfl
theorem Zy8:Zr polS13 ⟨#[97,108,108,111,119,32,114,101,97,100,32,97,108,108,32,60,77,97,105,110,62]⟩=some (polS14,true):=by kernel_rfl
theorem Zy9:Zr polS16 ⟨#[97,108,108,111,119,32,101,100,105,116,32,117,115,101,114,115,32,60,77,97,105,110,62]⟩=some (polS17,true):=by kernel_rfl
theorem Zza:Zr polS19 ⟨#[97,108,108,111,119,32,109,111,118,101,32,115,116,97,102,102,32,60,97,108,108,62]⟩=some (polS20,true):=by kernel_rfl
theorem Zzb:Zr polS22 ⟨#[97,108,108,111,119,32,101,100,105,116,32,115,116,97,102,102,32,60,97,108,108,62]⟩=some (ZiT,true):=by kernel_rfl
theorem Zzc:Zr polS24 ⟨#[100,101,110,121,32,114,101,97,100,32,97,108,108,32,67,97,116,101,103,111,114,121,58,89]⟩=some (ZiU,true):=by kernel_rfl
theorem Zzd:Zr polS26 ⟨#[100,101,110,121,32,114,101,97,100,32,117,115,101,114,115,32,68]⟩=some (ZiV,true):=by kernel_rfl
theorem Zze:Zr polS28 ⟨#[97,108,108,111,119,32,114,101,118,105,101,119,32,115,116,97,102,102,32,60,77,97,105,110,62]⟩=some (polS29,true):=by kernel_rfl
theorem Zzf:Zr ZiW ⟨#[]⟩=some (ZiW,true):=by kernel_rfl
theorem ZqY:Zr polS2 ⟨#[97,108,108,111,119,32,109,111,118,101,32,97,108,108,32,60,97,108,108,62]⟩=some (polS3,true):=by kernel_rfl
theorem ZyK:Zr polS5 ⟨#[]⟩=some (polS5,true):=by kernel_rfl
theorem ZzE:Zr polS7 ⟨#[97,108,108,111,119,32,114,101,97,100,32,115,116,97,102,102,32,65,47,67]⟩=some (Zne,true):=by kernel_rfl
theorem ZyL:Zr polS9 ⟨#[115,116,114,105,99,116,32,115,116,97,102,102,32,84,101,109,112,108,97,116,101,58,84]⟩=some (polS10,true):=by kernel_rfl
theorem ZyM:Zr polS0 ⟨#[103,114,111,117,112,32,115,116,97,102,102,32,97,110,110,32,64,109,111,114,101]⟩=some (polS12,true):=by kernel_rfl
theorem ZyN:Zr polS14 ⟨#[97,108,108,111,119,32,114,101,97,100,32,97,108,108,32,60,84,101,109,112,108,97,116,101,62]⟩=some (polS15,true):=by kernel_rfl
theorem ZyO:Zr polS17 ⟨#[97,108,108,111,119,32,101,100,105,116,32,115,116,97,102,102,32,60,67,97,116,101,103,111,114,121,62]⟩=some (polS18,true):=by kernel_rfl
theorem ZyP:Zr polS20 ⟨#[97,108,108,111,119,32,100,101,108,101,116,101,32,115,116,97,102,102,32,60,97,108,108,62]⟩=some (polS21,true):=by kernel_rfl
theorem ZyQ:Zr ZiT ⟨#[]⟩=some (ZiT,true):=by kernel_rfl
theorem ZyR:Zr ZiU ⟨#[]⟩=some (ZiU,true):=by kernel_rfl
theorem ZyS:Zr ZiV ⟨#[]⟩=some (ZiV,true):=by kernel_rfl
theorem ZyT:Zr polS29 ⟨#[103,117,97,114,100,32,115,116,97,102,102,32,65]⟩=some (polS30,true):=by kernel_rfl
theorem Zuo:Zai Zxv=some (polS5,0,0):=ZfN (by kernel_rfl) (by kernel_rfl) (by kernel_rfl) (.cons Zql (.cons Zrt (.cons ZqY (.cons Zqm (.cons Zru (.cons ZyK .nil)))))) (by kernel_rfl)
theorem Zup:Zai Zxw=some (Zne,0,0):=ZfN (by kernel_rfl) (by kernel_rfl) (by kernel_rfl) (.cons Zql (.cons Zrt (.cons ZqY (.cons Zqm (.cons Zru (.cons ZwC (.cons ZzH (.cons ZzE (.cons Zzr .nil))))))))) (by kernel_rfl)
theorem Zuq:Zai Zxx=some (ZiS,0,0):=ZfN (by kernel_rfl) (by kernel_rfl) (by kernel_rfl) (.cons Zql (.cons Zrt (.cons ZqY (.cons Zqm (.cons Zru (.cons ZwC (.cons Zy6 (.cons ZyL (.cons Zyg (.cons Zy7 .nil)))))))))) (by kernel_rfl)
theorem Zur:Zai Zxy=some (ZiT,0,0):=ZfN (by kernel_rfl) (by kernel_rfl) (by kernel_rfl) (.cons ZyM (.cons Zyh (.cons Zy8 (.cons ZyN (.cons Zyi (.cons Zy9 (.cons ZyO (.cons Zyj (.cons Zza (.cons ZyP (.cons Zyk (.cons Zzb (.cons ZyQ .nil))))))))))))) (by kernel_rfl)
theorem Zus:Zai Zxz=some (ZiU,0,0):=ZfN (by kernel_rfl) (by kernel_rfl) (by kernel_rfl) (.cons Zql (.cons Zrt (.cons ZqY (.cons Zqm (.cons Zru (.cons Zyl (.cons Zzc (.cons ZyR .nil)))))))) (by kernel_rfl)
theorem Zut:Zai ZxA=some (ZiV,0,0):=ZfN (by kernel_rfl) (by kernel_rfl) (by kernel_rfl) (.cons Zql (.cons Zrt (.cons ZqY (.cons Zqm (.cons Zru (.cons Zym (.cons Zzd (.cons ZyS .nil)))))))) (by kernel_rfl)
theorem Zuu:Zai ZxB=some (polS5,0,0):=ZfN (by kernel_rfl) (by kernel_rfl) (by kernel_rfl) (.cons Zql (.cons Zrt (.cons ZqY (.cons Zqm (.cons Zru (.cons ZyK .nil)))))) (by kernel_rfl)
theorem Zuv:Zai ZxC=some (ZiW,0,0):=ZfN (by kernel_rfl) (by kernel_rfl) (by kernel_rfl) (.cons Zql (.cons Zrt (.cons ZqY (.cons Zqm (.cons Zru (.cons ZwC (.cons Zyn (.cons Zze (.cons ZyT (.cons Zyo (.cons Zzf .nil))))))))))) (by kernel_rfl)
end Go.Proofs.YtjoneoobolnnbaaGreatDoor
set_option linter.unusedVariables false
namespace Go.Proofs.YtjoneoobolnnbaaGreatDoor
open VL
theorem Zgu:∀ t ∈ policyG,∃ p,Zai t=some (p,0,0):=by
 intro t ht
 unfold policyG at ht
 rcases List.mem_cons.1 ht with e | ht
 ·exact ⟨_,e ▸ Zuo⟩
 rcases List.mem_cons.1 ht with e | ht
 ·exact ⟨_,e ▸ Zup⟩
 rcases List.mem_cons.1 ht with e | ht
 ·exact ⟨_,e ▸ Zuq⟩
 rcases List.mem_cons.1 ht with e | ht
 ·exact ⟨_,e ▸ Zur⟩
 rcases List.mem_cons.1 ht with e | ht
 ·exact ⟨_,e ▸ Zus⟩
 rcases List.mem_cons.1 ht with e | ht
 ·exact ⟨_,e ▸ Zut⟩
 rcases List.mem_cons.1 ht with e | ht
 ·exact ⟨_,e ▸ Zuu⟩
 rcases List.mem_cons.1 ht with e | ht
 ·exact ⟨_,e ▸ Zuv⟩
 cases ht
theorem ZoA:policyG.all (fun t=>decide (t.size≤8192))=true:=by kernel_rfl
theorem ZpE (t:ByteArray) (h:t ∈ policyG):t.size≤8192:=of_decide_eq_true (List.all_eq_true.1 ZoA t h)
def begun (t:ByteArray):State:=⟨1,0,[⟨policyT,[⟨1,⟨#[]⟩,⟨#[]⟩,t,0,1⟩]⟩],[],[],0,[],[]⟩
def Zt5:State:=⟨0,0,[],[],[],0,[],[]⟩
def ZpF (t:ByteArray):Change:=⟨1,⟨#[]⟩,⟨#[]⟩,policyT,⟨0,⟨#[]⟩⟩,t,0,[]⟩
theorem ZsD:Zgi Zt5=some true:=by kernel_rfl
theorem Zj2:policyT.valid=true:=by kernel_rfl
theorem ZvP {α β:Type} (F:(α→Option β)→α→Option β) (a:α):ZE Zaj F a=F (ZE 4611686018427387903 F) a:=rfl
theorem ZvQ {α β:Type} (F:(α→Option β)→α→Option β) (a:α):ZE 4611686018427387903 F a=F (ZE 4611686018427387902 F) a:=rfl
theorem Zt6 (t:ByteArray) (ht:t.size≤8192):Zby (ZpF t)=some 0:=by
 refine ZV ?_
 unfold Zby
 refine Za (v:=true) ?_ ?_
 ·rfl
 refine Zs rfl ?_
 refine Za (v:=true) ?_ ?_
 ·refine ZV ?_
  unfold ZbH
  refine ZJ ?_
  refine ZQ (fun _=>?_) fun h=>absurd (show (1:Int)=6 from h) (by decide)
  refine ZQ (fun _=>?_) fun h=>absurd (show (1:Int)=10 from h) (by decide)
  refine Za (v:=true) (by show some policyT.valid=_;rw [Zj2]) ?_
  refine Zs rfl ?_
  refine Za (ZgD _) ?_
  exact Zb rfl
 refine Zs rfl ?_
 refine ZJ ?_
 refine Zc (fun h=>absurd h (by show ¬ 8192<(t.size:Int);omega)) fun _=>?_
 refine Zs rfl ?_
 exact Zb rfl
theorem Zw7 (t:ByteArray) (ht:t.size≤8192) (hp:∃ p n,Zai t=some (p,n,0)):Zix t=some (begun t):=by
 obtain ⟨p,n,hp⟩:=hp
 refine ZV ?_
 unfold Zix
 refine Za (v:=policyT) rfl ?_
 refine Za (v:=(begun t,0)) ?_ (Zb rfl)
 refine ZV ?_
 unfold Zao
 refine Za ZsD ?_
 refine Zs rfl ?_
 refine ZJ ?_
 refine Zc (fun h=>absurd (show (1:Int)<1 from h) (by decide)) fun _=>?_
 refine Zs rfl ?_
 rw [ZvP]
 dsimp only
 refine ZH rfl ?_
 refine Za (v:=ZpF t) rfl ?_
 refine Za (Zt6 t ht) ?_
 refine Zs rfl ?_
 refine Za (v:=ZpF t) rfl ?_
 refine Za (v:=(⟨0,0,[⟨policyT,[⟨1,⟨#[]⟩,⟨#[]⟩,t,0,1⟩]⟩],[],[],0,[],[]⟩,0)) rfl ?_
 refine Zs rfl ?_
 refine Za (v:=ZpF t) rfl ?_
 refine Za (v:=false) ?_ ?_
 ·refine ZV ?_
  unfold ZaA
  refine ZH rfl ?_
  refine Za (v:=policyT) rfl ?_
  refine ZQ (fun h=>absurd rfl h) fun _=>?_
  refine Za hp ?_
  exact Zb rfl
 refine Zs rfl ?_
 refine Za (v:=ZpF t) rfl ?_
 refine Za (v:=(⟨0,0,[⟨policyT,[⟨1,⟨#[]⟩,⟨#[]⟩,t,0,1⟩]⟩],[],[],0,[],[]⟩,0)) rfl ?_
 refine Zs rfl ?_
 rw [ZvQ]
 exact Zb rfl
theorem ZvR (t:ByteArray) (ht:t.size≤8192):VS t 1 (begun t):=by
 refine ⟨by show (0:Int)≤1;decide,by show (0:Int)≤0;decide,by show (0:Int)≤52595999;decide,by simp [begun],by simp [begun],fun p hp=>?_,fun p hp=>by simp [begun] at hp,List.pairwise_singleton ..,fun p hp _=>?_,by simp [begun],by show (0:Int)≤0;decide,by show (0:Int)≤1073741824;decide,(fun p hp=>by simp [begun] at hp),(fun p hp=>by simp [begun] at hp),List.Pairwise.nil,by simp [begun],fun p hp=>by simp [begun] at hp,List.Pairwise.nil,by simp [begun],fun p hp=>by simp [begun] at hp,List.Pairwise.nil⟩
 ·simp [begun] at hp
  subst hp
  refine ⟨Zj2,by simp,by simp,fun i r hr=>?_,fun r hr=>?_,List.pairwise_singleton ..⟩
  ·cases i with
   | zero=>injection hr with hr;subst hr;rfl
   | succ i=>simp at hr
  ·simp at hr
   subst hr
   exact ⟨ht,Nat.zero_le _,rfl,Int.le_refl _,Int.le_refl _,Int.le_refl _,Int.le_refl _⟩
 ·simp [begun] at hp
  subst hp
  rfl
structure Made (s:State) (m:Int):Prop where
 ex:∃ t ∈ policyG,VS t s.seq s
 seq:s.seq≤m
 clock:s.clock≤4000 * m
theorem ZsE {s:State} {m:Int} {l:List Change} (h:Made s m) (hm:m≤1000) (hl:∀ c ∈ l,c.tame) (hn:l.length≤2):Tot (Zao s l) fun r=>r.2=0→Made r.1 (m+1):=by
 obtain ⟨⟨t,ht,hv⟩,h1,h2⟩:=h
 obtain ⟨p,hp⟩:=Zgu t ht
 have hs:s.seq<1073741824:=by omega
 refine (ZrA hv hs ⟨p,0,hp⟩ hl (by omega)).mono fun r hr h0=>?_
 obtain ⟨k1,k2,k3,k4⟩:=hr h0
 exact ⟨⟨t,ht,k1⟩,by omega,by omega⟩
theorem Made.mono {s:State} {m m':Int} (h:Made s m) (hm:m≤m'):Made s m':=⟨h.ex,Int.le_trans h.seq hm,by have:=h.clock;omega⟩
def polsG:List Policy:=[polS0,polS5,Zne,ZiS,ZiT,ZiU,ZiV,ZiW]
theorem ZyZ:polS0 ∈ polsG:=.head _
theorem Zq7:∀ t ∈ policyG,∃ p ∈ polsG,Zai t=some (p,0,0)∧Zat t=some (p,0,0):=by
 intro t ht
 unfold policyG at ht
 rcases List.mem_cons.1 ht with e | ht
 ·exact ⟨polS5,.tail _ (.head _),e ▸ Zuo,e ▸ ZvE⟩
 rcases List.mem_cons.1 ht with e | ht
 ·exact ⟨Zne,.tail _ (.tail _ (.head _)),e ▸ Zup,e ▸ ZvF⟩
 rcases List.mem_cons.1 ht with e | ht
 ·exact ⟨ZiS,.tail _ (.tail _ (.tail _ (.head _))),e ▸ Zuq,e ▸ ZvG⟩
 rcases List.mem_cons.1 ht with e | ht
 ·exact ⟨ZiT,.tail _ (.tail _ (.tail _ (.tail _ (.head _)))),e ▸ Zur,e ▸ ZvH⟩
 rcases List.mem_cons.1 ht with e | ht
 ·exact ⟨ZiU,.tail _ (.tail _ (.tail _ (.tail _ (.tail _ (.head _))))),e ▸ Zus,e ▸ ZvI⟩
 rcases List.mem_cons.1 ht with e | ht
 ·exact ⟨ZiV,.tail _ (.tail _ (.tail _ (.tail _ (.tail _ (.tail _ (.head _)))))),e ▸ Zut,e ▸ ZvJ⟩
 rcases List.mem_cons.1 ht with e | ht
 ·exact ⟨polS5,.tail _ (.head _),e ▸ Zuu,e ▸ ZvK⟩
 rcases List.mem_cons.1 ht with e | ht
 ·exact ⟨ZiW,.tail _ (.tail _ (.tail _ (.tail _ (.tail _ (.tail _ (.tail _ (.head _))))))),e ▸ Zuv,e ▸ ZvL⟩
 cases ht
theorem ZpQ:polsG.all (fun p=>decide (p.rules.length≤100)&&decide (p.guards.length≤100)&&decide (p.groups.length≤100)&&p.groups.all (fun g=>decide (g.members.length≤100)))=true:=by kernel_rfl
theorem ZiD (p:Policy) (h:p ∈ polsG):p.rules.length≤100∧p.guards.length≤100∧p.groups.length≤100∧∀ g ∈ p.groups,g.members.length≤100:=by
 have:=List.all_eq_true.1 ZpQ p h
 simp only [Bool.and_eq_true,decide_eq_true_eq,List.all_eq_true] at this
 exact ⟨this.1.1.1,this.1.1.2,this.1.2,this.2⟩
theorem Zq8 (s:State) (t:Title) (hl:s.pages.length≤1000000):Tot (Zce s t) fun r=>(r=(⟨⟨0,⟨#[]⟩⟩,[]⟩,false)∧∀ p ∈ s.pages,p.title≠t)∨(r.2=true∧r.1 ∈ s.pages∧r.1.title=t):=by
 unfold Zce
 refine Zf (Zio s.pages t hl) fun r hr=>?_
 rcases hr with ⟨rfl,h⟩ | ⟨n,p,rfl,h1,h2⟩
 ·exact Zc (fun _=>Zb (.inl ⟨rfl,h⟩)) fun c=>absurd (by omega) c
 ·refine Zc (fun c=>absurd c (by omega)) fun _=>?_
  have:=(List.getElem?_eq_some_iff.1 h1).1
  refine Zl (by omega) (by omega) fun e he hg=>Zb (.inr ⟨rfl,he,?_⟩)
  rw [Int.toNat_natCast,h1] at hg
  injection hg with hg
  rw [← hg]
  exact h2
def Zum (p:Stored):Revision:=p.history.getLast?.getD ⟨0,⟨#[]⟩,⟨#[]⟩,⟨#[]⟩,0,0⟩
theorem ZnO (p:Stored) (h0:1≤p.history.length) (hl:p.history.length≤1000000):Zdi p=some (Zum p):=by
 obtain ⟨r,h1,h2⟩:=Zm7 p h0 hl
 rw [h2]
 unfold Zum
 rw [h1]
 rfl
theorem Zq9 (p:Stored) (h0:1≤p.history.length) (hl:p.history.length≤1000000):Zfa p=some (Zum p):=by
 rw [← ZnO p h0 hl]
 rfl
theorem Zra (l:List Revision) (h1:1≤l.length) (hl:l.length≤1000000):Za5 l=some l:=by
 refine ZV ?_
 unfold Za5
 refine Za (v:=()) ?_ ?_
 ·cases l with
  | nil=>cases h1
  | cons=>rfl
 ·refine ZK 1000000 (by simpa using hl) (by decide) (by decide) ?_
  exact Zb rfl
theorem Zjh (s:State) (t:Title) (hl:s.pages.length≤1000000) (hh:∀ p ∈ s.pages,1≤p.history.length∧p.history.length≤1000000):Tot (Zbr s t) fun r=>(r.2=false∧∀ p ∈ s.pages,p.title≠t)∨(r.2=true∧r.1 ∈ s.pages∧r.1.title=t):=by
 unfold Zbr
 refine Zj (fun i:Int=>(0≤i∧i≤(s.pages.length:Int))∧∀ (j:Nat) p,(j:Int)<i→s.pages[j]? = some p→p.title≠t) (fun i=>((s.pages.length:Int) - i).toNat) ⟨⟨by omega,by omega⟩,fun j p h=>by omega⟩ (by first | omega | (dsimp only;omega)) ?_
 rintro i rec ⟨⟨h0,h1⟩,h2⟩ ih
 refine Zc (fun hlt=>?_) fun hlt=>?_
 ·refine Zl h0 hlt fun e he hg=>?_
  refine Zc (fun ht=>?_) fun ht=>?_
  ·refine Za (v:=e) ?_ (Zb (.inr ⟨rfl,he,ht⟩))
   unfold ZcV
   rw [Zra _ (hh e he).1 (hh e he).2]
   rfl
  ·rw [Zg (by omega) (by omega)]
   refine ih _ ⟨⟨by omega,by omega⟩,fun j p hj hp=>?_⟩ (by omega)
   by_cases hji:(j:Int)<i
   ·exact h2 j p hji hp
   ·rw [show i.toNat=j by omega,hp] at hg
    injection hg with hg
    rw [hg]
    exact ht
 ·refine Zb (.inl ⟨rfl,fun p hp=>?_⟩)
  obtain ⟨j,hj,rfl⟩:=List.getElem_of_mem hp
  exact h2 j _ (by omega) (List.getElem?_eq_getElem hj)
def ZdR (l:List Stored):Bool:=l.any fun p=>decide (p.title=policyT)
theorem ZmH {l:List Stored} (h:∀ p ∈ l,p.title≠policyT):ZdR l=false:=by
 unfold ZdR
 rw [List.any_eq_false]
 intro p hp
 simpa using h p hp
theorem ZmI {l:List Stored} {p:Stored} (h:p ∈ l) (ht:p.title=policyT):ZdR l=true:=by
 unfold ZdR
 rw [List.any_eq_true]
 exact ⟨p,h,decide_eq_true ht⟩
theorem Zrb {t0:ByteArray} {q:Int} {s:State} (hv:VS t0 q s):∀ p ∈ s.pages,1≤p.history.length∧p.history.length≤1000000:=by
 intro p hp
 have hs:=(hv.pages p hp).hist
 have a1:=hs.len1
 have a2:=hs.len2
 exact ⟨a1,by omega⟩
theorem Zun {t0:ByteArray} {q:Int} {s:State} (hv:VS t0 q s) {p:Stored} (hp:p ∈ s.pages) (ht:p.title=policyT):(Zum p).text=t0:=by
 have:=hv.rule p hp ht
 unfold Zm6 at this
 have hs:=(hv.pages p hp).hist
 obtain ⟨c,h1,_⟩:=Zm7 p hs.len1 (by have:=hs.len2;omega)
 unfold Zum
 rw [h1] at this ⊢
 exact this
def Zb4 (P0:Policy) (l:List Stored):Policy:=if ZdR l=true then P0 else polS0
theorem Zy0 {t0:ByteArray} {q:Int} {s:State} {P0:Policy} (hv:VS t0 q s) (hr:Zai t0=some (P0,0,0)) (hp:Zat t0=some (P0,0,0)):Zdu s=some (Zb4 P0 s.pages)∧Zck s=some (Zb4 P0 s.pages):=by
 have hl:s.pages.length≤1000000:=by have:=hv.plen;omega
 have hh:=Zrb hv
 constructor
 ·refine ZV ?_
  unfold Zdu
  refine Za (v:=policyT) rfl ?_
  unfold Zlz
  refine Zf (Q:=fun r=>(r.2=false∧ZdR s.pages=false)∨(r.2=true∧r.1=t0∧ZdR s.pages=true)) ?_ fun r hr2=>?_
  ·refine Zf (Zq8 s policyT hl) fun r h=>?_
   rcases h with ⟨rfl,h⟩ | ⟨h1,h2,h3⟩
   ·exact Za (v:=⟨0,⟨#[]⟩,⟨#[]⟩,⟨#[]⟩,0,0⟩) rfl (Zb (.inl ⟨rfl,ZmH h⟩))
   ·refine Za (ZnO r.1 (hh _ h2).1 (hh _ h2).2) (Zb (.inr ⟨h1,Zun hv h2 h3,ZmI h2 h3⟩))
  ·rcases hr2 with ⟨h1,h2⟩ | ⟨h1,h2,h3⟩
   ·refine ZH (by rw [h1];rfl) (Zb ?_)
    unfold Zb4
    rw [h2]
    rfl
   ·refine Zs (by rw [h1];rfl) ?_
    rw [h2]
    refine Za hr ?_
    refine Zs rfl (Zb ?_)
    unfold Zb4
    rw [h3]
    rfl
 ·refine ZV ?_
  unfold Zck
  refine Zf (Zjh s policyT hl hh) fun r h=>?_
  rcases h with ⟨h1,h⟩ | ⟨h1,h2,h3⟩
  ·refine ZH (by rw [h1];rfl) (Zb ?_)
   unfold Zb4
   rw [ZmH h]
   rfl
  ·refine Zs (by rw [h1];rfl) ?_
   refine Za (Zq9 r.1 (hh _ h2).1 (hh _ h2).2) ?_
   rw [Zun hv h2 h3]
   refine Za hp ?_
   refine Zs rfl (Zb ?_)
   unfold Zb4
   rw [ZmI h2 h3]
   rfl
theorem ZvZ {P0:Policy} (h:P0 ∈ polsG) (l:List Stored):Zb4 P0 l ∈ polsG:=by
 unfold Zb4
 split
 ·exact h
 ·exact ZyZ
def ZoJ (x y:Option (List ByteArray)):Bool:=match x,y with | some G,some H=>decide (G=H)&&decide (G.length≤100) | _,_=>false
theorem ZsP {x y:Option (List ByteArray)} (h:ZoJ x y=true):∃ G,x=some G∧y=some G∧G.length≤100:=by
 cases x with
 | none=>cases h
 | some G=>
   cases y with
   | none=>cases h
   | some H=>
     simp only [ZoJ,Bool.and_eq_true,decide_eq_true_eq] at h
     exact ⟨G,rfl,by rw [h.1],h.2⟩
theorem ZmJ:polsG.all (fun p=>usersG.all fun u=>ZoJ (Zfk p u) (Zbp p u))=true:=by kernel_rfl
theorem Zrc (p:Policy) (hp:p ∈ polsG) (u:ByteArray) (hu:u ∈ usersG):∃ G,Zfk p u=some G∧Zbp p u=some G∧G.length≤100:=
 ZsP (List.all_eq_true.1 (List.all_eq_true.1 ZmJ p hp) u hu)
structure RdAt (s:State) (u:ByteArray) (P:Policy) (G:List ByteArray):Prop where
 pol:P ∈ polsG
 prog:Zck s=some P
 gprog:Zbp P u=some G
 glen:G.length≤100
end Go.Proofs.YtjoneoobolnnbaaGreatDoor
namespace Go.Proofs.YtjoneoobolnnbaaGreatDoor
open VL
def Par {α:Type} (x:Option α) (Q:α→Prop):Prop:=∀ v,x=some v→Q v
section
variable {α β γ:Type}
theorem ZbS {x:Option α} {Q:α→Prop} (h:Tot x Q):Par x Q:=fun v e=>by
 obtain ⟨w,h1,h2⟩:=h
 rw [h1] at e
 injection e with e
 rw [← e]
 exact h2
theorem Zq {v:α} {Q:α→Prop} (h:Q v):Par (some v) Q:=fun w e=>by
 injection e with e
 rw [← e]
 exact h
theorem ZaW {x:Option α} {f:α→Option β} {Q:α→Prop} {R:β→Prop} (h:Par x Q) (k:∀ v,Q v→Par (f v) R):Par (x.bind f) R:=fun w e=>by
 cases x with
 | none=>cases e
 | some v=>exact k v (h v rfl) w e
theorem Zz {x:Option α} {f:α→Option β} {R:β→Prop} (k:∀ v,x=some v→Par (f v) R):Par (x.bind f) R:=ZaW (Q:=fun v=>x=some v) (fun _ e=>e) k
theorem ZbU {b:Bool} {x y:Option β} {R:β→Prop} (h1:b=true→Par x R) (h2:b=false→Par y R):Par (if b=true then x else y) R:=by
 cases b
 ·exact h2 rfl
 ·exact h1 rfl
theorem Zt {p:Prop} [Decidable p] {x y:Option β} {R:β→Prop} (h1:p→Par x R) (h2:¬ p→Par y R):Par (if decide p=true then x else y) R:=
 ZbU (fun e=>h1 (of_decide_eq_true e)) fun e=>h2 (of_decide_eq_false e)
theorem Zbz {k:γ} {f:γ→Option β} {R:β→Prop} (S:γ→Prop) (hk:S k) (hf:∀ q,S q→Par (f q) R):Par (letk k f) R:=hf k hk
theorem Zgy {l:List α} {i:Int} {f:α→Option β} {R:β→Prop} (k:∀ e,l[i.toNat]? = some e→Par (f e) R):Par ((atI l i).bind f) R:=Zz fun e he=>k e (ZkT he).2
theorem Zcm {w:Nat} {a b:List α} {f:List α→Option β} {R:β→Prop} (k:Par (f (a++b)) R):Par ((ZcF w a b).bind f) R:=Zz fun v hv=>by
 unfold ZcF at hv
 split at hv
 ·injection hv with hv
  rw [← hv]
  exact k
 ·cases hv
theorem Zh6 {F:(α→Option β)→α→Option β} {R:β→Prop} (J:α→Prop) (h:∀ a rec,J a→(∀ a',J a'→Par (rec a') R)→Par (F rec a) R):∀ (n:Nat) (a:α),J a→Par (ZE n F a) R
 | 0,_,_=>fun _ e=>by cases e
 | n+1,a,ha=>h a _ ha fun a' ha'=>Zh6 J h n a' ha'
end
def Fr (q:Title→Bool) (s:State) (r:State×Int):Prop:=r.2=0→r.1.clock=s.clock∧r.1.pages.filter (fun p=>q p.title)=s.pages.filter (fun p=>q p.title)
theorem Zd7 {q:Title→Bool} {s s':State} {e:Int} (h:e≠0):Fr q s (s',e):=fun h'=>absurd h' h
theorem ZmR {q:Title→Bool} {s:State} {r:State×Int} (h1:r.1.clock=s.clock) (h2:r.1.pages=s.pages):Fr q s r:=fun _=>⟨h1,by rw [h2]⟩
theorem Zke {q:Title→Bool} (l:List Stored) (p:Stored) (n:Nat) (h:q p.title=false):(l.take n++p::l.drop n).filter (fun p=>q p.title)=l.filter (fun p=>q p.title):=by
 rw [List.filter_append,List.filter_cons_of_neg (by simp [h]),← List.filter_append,List.take_append_drop]
theorem ZoR {q:Title→Bool} {l:List Stored} {p:Stored} {n:Nat} (hn:l[n]? = some p) (h:q p.title=false):(l.take n++l.drop (n+1)).filter (fun p=>q p.title)=l.filter (fun p=>q p.title):=by
 obtain ⟨hl,rfl⟩:=List.getElem?_eq_some_iff.1 hn
 conv=>rhs;rw [← List.take_append_drop n l,List.drop_eq_getElem_cons hl]
 rw [List.filter_append,List.filter_append,List.filter_cons_of_neg (by simp [h])]
theorem Zv6 {q:Title→Bool} {l:List Stored} {p p':Stored} {n:Nat} (hn:l[n]? = some p) (h:q p.title=false) (h':q p'.title=false):(l.set n p').filter (fun p=>q p.title)=l.filter (fun p=>q p.title):=by
 obtain ⟨hl,rfl⟩:=List.getElem?_eq_some_iff.1 hn
 rw [List.set_eq_take_append_cons_drop,if_pos hl,List.filter_append,List.filter_cons_of_neg (by simp [h']),← List.filter_append,ZoR hn h]
theorem Zy4 {q:Title→Bool} {s:State} {c:Change} {z:Int} (hl:s.pages.length≤1000000) (h:q c.title=false):Par (Zej s c z) (Fr q s):=by
 unfold Zej
 refine ZaW (ZbS (Zio s.pages c.title hl)) fun r hr=>?_
 refine Zt (fun h0=>?_) fun h0=>?_
 ·refine Zt (fun _=>Zq (Zd7 (by decide))) fun _=>?_
  refine ZaW (ZbS (Zdf s.pages _ hl)) fun r hr=>?_
  obtain ⟨n,_,rfl,_,_⟩:=hr
  exact Zq fun _=>⟨rfl,Zke _ _ _ h⟩
 ·rcases hr with ⟨rfl,_⟩ | ⟨n,p,rfl,hn,ht⟩
  ·exact absurd (by decide) h0
  refine Zgy fun e he=>?_
  refine Zt (fun _=>Zq (Zd7 (by decide))) fun _=>?_
  refine Zcm ?_
  refine Zcm ?_
  refine Zcm ?_
  refine Zgy fun e' he'=>?_
  rw [Zib] at he' ⊢
  have e1:e'=p:=by
   rw [Int.toNat_natCast,hn] at he'
   injection he' with he'
   exact he'.symm
  subst e1
  refine Zq fun _=>⟨rfl,?_⟩
  unfold ZaS
  exact Zv6 hn (by rw [ht];exact h) (by rw [ht];exact h)
theorem ZuE {q:Title→Bool} {s:State} {c:Change} (hl:s.pages.length≤1000000) (h:q c.title=false):Par (ZcT s c) (Fr q s):=by
 unfold ZcT
 refine ZaW (ZbS (Zio s.pages c.title hl)) fun r hr=>?_
 refine Zt (fun h0=>Zq (Zd7 (by decide))) fun h0=>?_
 rcases hr with ⟨rfl,_⟩ | ⟨n,p,rfl,hn,ht⟩
 ·exact absurd (by decide) h0
 refine Zt (fun _=>Zq (Zd7 (by decide))) fun _=>?_
 refine Zcm ?_
 refine Zgy fun e he=>?_
 refine Zcm ?_
 refine Zz fun w hw=>?_
 rw [Zic s.pages n (List.getElem?_eq_some_iff.1 hn).1 hl] at hw
 injection hw with hw
 subst hw
 refine Zz fun d hd=>?_
 exact Zq fun _=>⟨rfl,ZoR hn (by rw [ht];exact h)⟩
theorem ZsW {q:Title→Bool} {s:State} {c:Change} (hl:s.pages.length≤1000000) (hg:s.gone.length≤1000000) (h:q c.title=false):Par (Zch s c) (Fr q s):=by
 unfold Zch
 refine ZaW (ZbS (ZnT s c.title hg)) fun g hg=>?_
 refine Zz fun r _=>?_
 refine Zt (fun _=>Zq (Zd7 (by decide))) fun _=>?_
 refine Zt (fun _=>Zq (Zd7 (by decide))) fun h0=>?_
 rcases hg with rfl | ⟨n,p,rfl,hn,ht⟩
 ·exact absurd (by decide) h0
 refine Zt (fun _=>Zq (Zd7 (by decide))) fun _=>?_
 refine Zgy fun e he=>?_
 rw [Int.toNat_natCast,hn] at he
 injection he with he
 subst he
 refine ZaW (ZbS (Zdf s.pages _ hl)) fun r hr=>?_
 obtain ⟨n,_,rfl,_,_⟩:=hr
 refine Zz fun _ _=>?_
 exact Zq fun _=>⟨rfl,Zke _ _ _ (by rw [ht];exact h)⟩
theorem ZxD {q:Title→Bool} {s:State} {c:Change} {z:Int} (hl:s.pages.length≤1000000) (h:q c.title=false):Par (Ze5 s c z) (Fr q s):=by
 unfold Ze5
 refine Zz fun r _=>?_
 refine Zt (fun _=>Zq (Zd7 (by decide))) fun _=>?_
 refine Zgy fun e he=>?_
 refine Zt (fun _=>Zq (Zd7 (by decide))) fun _=>?_
 refine Zt (fun _=>Zq (Zd7 (by decide))) fun _=>?_
 refine Zcm ?_
 refine Zh6 (fun _=>True) (fun a rec _ ih=>?_) _ _ trivial
 refine Zt (fun _=>Zgy fun e he=>ih _ trivial) fun _=>?_
 refine ZaW (ZbS (Zdf s.pages _ hl)) fun r hr=>?_
 obtain ⟨n,_,rfl,_,_⟩:=hr
 exact Zq fun _=>⟨rfl,Zke _ _ _ h⟩
theorem ZxE {q:Title→Bool} {s:State} {c:Change} {z:Int} (hl:s.pages.length≤200) (h:q c.title=false) (h':q c.to=false):Par (Ze7 s c z) (Fr q s):=by
 unfold Ze7
 refine ZaW (ZbS (Zio s.pages c.title (by omega))) fun r hr=>?_
 refine Zt (fun h0=>Zq (Zd7 (by decide))) fun h0=>?_
 rcases hr with ⟨rfl,_⟩ | ⟨n,p,rfl,hn,ht⟩
 ·exact absurd (by decide) h0
 have hln:=(List.getElem?_eq_some_iff.1 hn).1
 refine Zz fun r _=>?_
 refine Zt (fun _=>Zq (Zd7 (by decide))) fun _=>?_
 refine Zbz (fun k=>∀ b,Par (k b) (Fr q s)) (fun b=>?_) fun k hk=>?_
 ·refine ZbU (fun _=>Zq (Zd7 (by decide))) fun _=>?_
  refine Zgy fun e he=>?_
  refine Zz fun w hw=>?_
  rw [Zic s.pages n hln (by omega)] at hw
  injection hw with hw
  subst hw
  have hwl:(s.pages.take n++s.pages.drop (n+1)).length≤200:=by simp;omega
  have hwf:=ZoR (q:=q) hn (by rw [ht];exact h)
  refine ZaW (ZbS (Zdf _ _ (by omega))) fun w2 hw2=>?_
  obtain ⟨n2,hn2,rfl,_,_⟩:=hw2
  have hl2:(List.take n2 (s.pages.take n++s.pages.drop (n+1))++(⟨c.to,e.history⟩:Stored)::List.drop n2 (s.pages.take n++s.pages.drop (n+1))).length≤1000000:=by
   rw [List.length_append,List.length_cons,List.length_take,List.length_drop]
   omega
  have hf2:=Zke (q:=q) (s.pages.take n++s.pages.drop (n+1)) (⟨c.to,e.history⟩:Stored) n2 h'
  rw [hwf] at hf2
  refine Zbz (fun k=>∀ l:List Stored,l.filter (fun p=>q p.title)=s.pages.filter (fun p=>q p.title)→Par (k l) (Fr q s)) (fun l e=>Zz fun d _=>Zq fun _=>⟨rfl,e⟩) fun k hk=>?_
  refine Zt (fun _=>?_) fun _=>hk _ hf2
  refine Zz fun x _=>?_
  refine ZaW (ZbS (Zdf _ _ hl2)) fun w3 hw3=>?_
  obtain ⟨n3,hn3,rfl,_,_⟩:=hw3
  exact hk _ ((Zke _ _ _ h).trans hf2)
 ·exact Zt (fun _=>hk _) fun _=>hk _
theorem Zv7 {q:Title→Bool} {s:State} {c:Change}:Par (ZcK s c) (Fr q s):=by
 unfold ZcK
 refine Zh6 (fun _=>True) (fun a rec _ ih=>?_) _ _ trivial
 refine Zbz (fun k=>∀ b,Par (k b) (Fr q s)) (fun b=>?_) fun k hk=>?_
 ·refine ZbU (fun _=>Zz fun _ _=>Zz fun _ _=>ih _ trivial) fun _=>?_
  refine Zbz (fun k=>∀ b,Par (k b) (Fr q s)) (fun b=>?_) fun k hk=>?_
  ·refine Zt (fun _=>?_) fun _=>?_
   ·refine ZbU (fun _=>Zq (Zd7 (by decide))) fun _=>?_
    exact Zz fun _ _=>Zz fun _ _=>Zq (ZmR rfl rfl)
   ·refine ZbU (fun _=>Zq (Zd7 (by decide))) fun _=>?_
    refine Zt (fun _=>Zq (Zd7 (by decide))) fun _=>?_
    exact Zz fun _ _=>Zz fun _ _=>Zz fun _ _=>Zq (ZmR rfl rfl)
  ·exact Zt (fun _=>Zz fun _ _=>hk _) fun _=>hk _
 ·exact Zt (fun _=>Zz fun _ _=>Zz fun _ _=>hk _) fun _=>hk _
theorem Zv8 {q:Title→Bool} {s:State} {u:ByteArray} {z:Int}:Par (ZdF s u z) (Fr q s):=by
 unfold ZdF
 refine Zt (fun _=>Zq (ZmR rfl rfl)) fun _=>?_
 refine Zh6 (fun _=>True) (fun a rec _ ih=>?_) _ _ trivial
 refine Zbz (fun k=>∀ b,Par (k b) (Fr q s)) (fun b=>?_) fun k hk=>?_
 ·refine ZbU (fun _=>Zz fun _ _=>Zz fun _ _=>ih _ trivial) fun _=>?_
  refine Zbz (fun k=>∀ b,Par (k b) (Fr q s)) (fun b=>?_) fun k hk=>?_
  ·refine Zbz (fun k=>∀ b,Par (k b) (Fr q s)) (fun b2=>?_) fun k hk=>?_
   ·refine ZbU (fun _=>Zq (Zd7 (by decide))) fun _=>?_
    refine Zz fun _ _=>?_
    refine Zbz (fun k=>∀ b,Par (k b) (Fr q s)) (fun b3=>Zz fun _ _=>Zz fun _ _=>Zq (ZmR rfl rfl)) fun k hk=>?_
    exact ZbU (fun _=>hk _) fun _=>hk _
   ·exact ZbU (fun _=>hk _) fun _=>hk _
  ·exact Zt (fun _=>Zz fun _ _=>hk _) fun _=>hk _
 ·exact Zt (fun _=>Zz fun _ _=>hk _) fun _=>hk _
theorem ZsX {q:Title→Bool} {s:State} {c:Change}:Par (Zcf s c) (Fr q s):=by
 unfold Zcf
 refine Zbz (fun k=>∀ b,Par (k b) (Fr q s)) (fun b=>?_) fun k hk=>?_
 ·exact ZbU (fun _=>Zq (Zd7 (by decide))) fun _=>Zz fun _ _=>Zz fun _ _=>Zq (ZmR rfl rfl)
 ·exact Zt (fun _=>hk _) fun _=>hk _
theorem ZxF {q:Title→Bool} {s:State} {c:Change} (hl:s.proposals.length≤1000000):Par (ZgV s c) (Fr q s):=fun v e h0=>by
 obtain ⟨l,_,h⟩:=ZbS (ZuI s c hl) v e h0
 rw [h]
 exact ⟨rfl,rfl⟩
theorem ZeY {α:Type} {x:Option α} {Q R:α→Prop} (h:Tot x Q) (g:Par x R):Tot x fun v=>Q v∧R v:=by
 obtain ⟨v,h1,h2⟩:=h
 exact ⟨v,h1,h2,g v h1⟩
theorem ZxG {t0:ByteArray} {q:Title→Bool} {s:State} {c:Change} {z y:Int} (hv:VS t0 y s) (h6:c.kind≠6) (h:c.kind≠10→q c.title=false) (h':c.kind=4→q c.to=false):Par (ZbE s c z) (Fr q s):=by
 have hp:=hv.plen
 have hg:=hv.glen
 have hpr:=hv.prlen
 have un:∀ {x:Option (State×Int)},Par x (Fr q s)→Par (x.bind fun r=>(some (r.1,r.2):Option (State×Int))) (Fr q s):=fun hx=>ZaW hx fun v hv=>Zq hv
 unfold ZbE
 refine Zt (fun e=>un (Zy4 (by omega) (h (by omega)))) fun e1=>?_
 refine Zt (fun e=>un (ZuE (by omega) (h (by omega)))) fun e2=>?_
 refine Zt (fun e=>un (ZsW (by omega) (by omega) (h (by omega)))) fun e3=>?_
 refine Zt (fun e=>un (ZxE hp (h (by omega)) (h' e))) fun e4=>?_
 refine Zt (fun e=>un (ZxD (by omega) (h (by omega)))) fun e5=>?_
 refine Zt (fun e=>absurd e h6) fun _=>?_
 refine Zbz (fun k=>∀ b,Par (k b) (Fr q s)) (fun b=>?_) fun k hk=>?_
 ·refine ZbU (fun _=>un Zv7) fun _=>?_
  refine Zt (fun _=>un ZsX) fun _=>?_
  exact un (ZxF (by omega))
 ·exact Zt (fun _=>hk _) fun _=>hk _
end Go.Proofs.YtjoneoobolnnbaaGreatDoor
namespace Go.Proofs.YtjoneoobolnnbaaGreatDoor
open VL
structure Change.known (c:Change):Prop where
 title:c.kind≠10→c.kind≠6→c.title ∈ ZaJ
 dest:c.kind=4→c.to ∈ ZaJ
theorem ZvM (s:SrcF) (clock:Int) (hs:s.ok):Tot (Zif s clock) fun r=>(r.1.tame∧r.1.known)∧r.2.ok:=by
 unfold Zif
 refine Zf (ZcB s 14 hs (by omega) (by omega)) fun r1 q1=>?_
 refine Zmv 14 rfl q1.1 fun c2 _=>?_
 refine Zf (Zuc _ q1.2) fun r3 q3=>?_
 refine Zf (Zmw _ q3.2) fun r4 q4=>?_
 have ht:(⟨r4.1.space,r4.1.name⟩:Title)≠policyT:=Zb3 _ q4.1
 refine Zx (fun k=>∀ l p sd kd us no ts tn os on tx n hi,(⟨ts,tn⟩:Title)≠policyT→(⟨os,on⟩:Title)≠policyT→0≤n→n≤2000→List.length hi≤3→tx.size≤300→(⟨l,p,sd⟩:SrcF).ok→(kd≠10→kd≠6→(⟨ts,tn⟩:Title) ∈ ZaJ)→(kd=4→(⟨os,on⟩:Title) ∈ ZaJ)→Tot (k l p sd kd us no ts tn os on tx n hi) fun r:Change×SrcF=>(r.1.tame∧r.1.known)∧r.2.ok) ?_ ?_
 ·intro l p sd kd us no ts tn os on tx n hi a1 a2 a3 a4 a5 a6 a7 a8 a9
  exact Zb ⟨⟨⟨a1,a2,a3,a4,a5,a6⟩,⟨a8,a9⟩⟩,a7⟩
 intro k3 hk3
 have hT:(⟨r4.1.space,r4.1.name⟩:Title) ∈ ZaJ:=q4.1
 refine Zx (fun k=>∀ b,(b=true→c2≠4)→Tot (k b) fun r:Change×SrcF=>(r.1.tame∧r.1.known)∧r.2.ok) ?_ ?_
 ·intro b hb4
  refine Zaw (fun hb=>?_) fun _=>?_
  ·have h4:=hb4 hb
   refine Zf (Zws _ q4.2) fun r5 q5=>?_
   refine Zf (ZrS _ q5.2) fun r6 q6=>?_
   refine Zc (fun _=>?_) fun _=>?_
   ·refine Zf (ZcB _ 3 q6.2 (by omega) (by omega)) fun r7 q7=>?_
    exact hk3 _ _ _ _ _ _ _ _ _ _ _ _ _ ht ZcQ q7.1.1 (by omega) (by simp) q6.1 q7.2 (fun _ _=>hT) (fun e=>absurd e h4)
   ·exact hk3 _ _ _ _ _ _ _ _ _ _ _ _ _ ht ZcQ (by omega) (by omega) (by simp) q6.1 q6.2 (fun _ _=>hT) (fun e=>absurd e h4)
  refine Zc (fun _=>?_) fun h4=>?_
  ·refine Zf (Zmw _ q4.2) fun r5 q5=>?_
   refine Zf (ZcB _ 2 q5.2 (by omega) (by omega)) fun r6 q6=>?_
   exact hk3 _ _ _ _ _ _ _ _ _ _ _ _ _ ht (Zb3 _ q5.1) q6.1.1 (by omega) (by simp) (by decide) q6.2 (fun _ _=>hT) (fun _=>q5.1)
  refine Zc (fun _=>?_) fun _=>?_
  ·refine Zf (ZrD _ clock q4.2) fun r5 q5=>?_
   exact hk3 _ _ _ _ _ _ _ _ _ _ _ _ _ ht ZcQ (by omega) (by omega) q5.1 (by decide) q5.2 (fun _ _=>hT) (fun e=>absurd e h4)
  refine Zc (fun _=>?_) fun h6=>?_
  ·refine Zf (ZcB _ 2000 q4.2 (by omega) (by omega)) fun r5 q5=>?_
   exact hk3 _ _ _ _ _ _ _ _ _ _ _ _ _ ZcQ ZcQ (by rw [Zg (by omega) (by omega)];omega) (by rw [Zg (by omega) (by omega)];omega) (by simp) (by decide) q5.2 (fun _ h=>absurd rfl h) (fun e=>absurd e (by decide))
  refine Zx (fun k=>∀ b,Tot (k b) fun r:Change×SrcF=>(r.1.tame∧r.1.known)∧r.2.ok) ?_ ?_
  ·intro b
   refine Zaw (fun _=>?_) fun _=>?_
   ·refine Zc (fun _=>?_) fun _=>?_
    ·exact hk3 _ _ _ _ _ _ _ _ _ _ _ _ _ ht ZcQ (by omega) (by omega) (by simp) (by decide) q4.2 (fun _ _=>hT) (fun e=>absurd e h4)
    ·exact hk3 _ _ _ _ _ _ _ _ _ _ _ _ _ ht ZcQ (by omega) (by omega) (by simp) (by decide) q4.2 (fun _ _=>hT) (fun e=>absurd e h4)
   refine Zc (fun h10=>?_) fun _=>?_
   ·refine Zf (ZcB _ 4 q4.2 (by omega) (by omega)) fun r5 q5=>?_
    exact hk3 _ _ _ _ _ _ _ _ _ _ _ _ _ ZcQ ZcQ (by rw [Zg (by omega) (by omega)];omega) (by rw [Zg (by omega) (by omega)];omega) (by simp) (by decide) q5.2 (fun h _=>absurd h10 h) (fun e=>absurd e h4)
   ·exact hk3 _ _ _ _ _ _ _ _ _ _ _ _ _ ht ZcQ (by omega) (by omega) (by simp) (by decide) q4.2 (fun _ _=>hT) (fun e=>absurd e h4)
  ·intro k hk
   exact Zc (fun _=>hk _) fun _=>hk _
 ·intro k hk
  exact Zc (fun h=>hk _ fun _=>by omega) fun _=>hk _ fun h=>by
   have:=of_decide_eq_true h
   omega
def Fp (q:Title→Bool) (s:State) (r:State×Int):Prop:=r.2=0→r.1.pages.filter (fun p=>q p.title)=s.pages.filter (fun p=>q p.title)
theorem Zj0 {α:Type} {x:Option α} {Q R:α→Prop} (h:Par x Q) (g:∀ v,Q v→R v):Par x R:=fun v e=>g v (h v e)
theorem Zw3 {t0:ByteArray} {q:Title→Bool} {s:State} {c:Change} {z y:Int} (hv:VS t0 y s) (h:c.kind≠10→c.kind≠6→q c.title=false) (h':c.kind=4→q c.to=false):Par (ZbE s c z) (Fp q s):=by
 by_cases h6:c.kind=6
 ·unfold ZbE
  refine Zt (fun e=>absurd e (by omega)) fun _=>?_
  refine Zt (fun e=>absurd e (by omega)) fun _=>?_
  refine Zt (fun e=>absurd e (by omega)) fun _=>?_
  refine Zt (fun e=>absurd e (by omega)) fun _=>?_
  refine Zt (fun e=>absurd e (by omega)) fun _=>?_
  refine Zt (fun _=>?_) fun e=>absurd h6 e
  exact Zt (fun _=>Zq fun e=>by cases e) fun _=>Zq fun _=>rfl
 ·exact Zj0 (ZxG hv h6 (fun e=>h e h6) h') fun v hv e=>(hv e).2
theorem ZvN {t0:ByteArray} {s:State} {l:List Change} {q:Title→Bool} (h:VS t0 s.seq s) (hs:s.seq<1073741824) (hp:∃ p n,Zai t0=some (p,n,0)) (hl:∀ c ∈ l,c.tame) (hn:l.length≤16)
  (hq:∀ c ∈ l,(c.kind≠10→c.kind≠6→q c.title=false)∧(c.kind=4→q c.to=false)):Par (Zao s l) (Fp q s):=by
 have s0:=h.seq0
 refine ZbS ?_
 unfold Zao
 refine Za (ZrC t0 s h (by omega) hp) ?_
 refine Zs rfl ?_
 have e1:w64 (s.seq+1)=s.seq+1:=Zg (by omega) (by omega)
 refine Zx (fun k=>Tot (k true) (Fp q s)∧Tot (k false) (Fp q s)) ⟨ZH rfl (Zb fun e=>by cases e),?_⟩ fun k hk=>?_
 ·refine Zs rfl ?_
  refine Zj (fun a:Int×Int×Int×List Stored×List Stored×List Proposal×Int×List Watch×List Last=>∃ n:Nat,a.1=n∧n≤l.length∧VS t0 (s.seq+1) ⟨a.2.1,a.2.2.1,a.2.2.2.1,a.2.2.2.2.1,a.2.2.2.2.2.1,a.2.2.2.2.2.2.1,a.2.2.2.2.2.2.2.1,a.2.2.2.2.2.2.2.2⟩∧a.2.1=s.seq∧a.2.2.2.1.filter (fun p=>q p.title)=s.pages.filter (fun p=>q p.title)) (fun a=>((l.length:Int) - a.1).toNat) ⟨0,rfl,Nat.zero_le _,h.mono (by omega),rfl,rfl⟩ (by first | omega | (dsimp only;omega)) ?_
  rintro ⟨i,sq,cl,pg,gn,pr,pd,wt,ls⟩ rec ⟨n,hi,hn',hV,hsq,hc1⟩ ih
  dsimp only at hi hV hsq hc1
  subst hi hsq
  rw [e1]
  refine Zc (fun hlt=>?_) fun hlt=>?_
  ·refine Zl (by omega) hlt fun c hcm hg=>?_
   have get:∀ {f:Change→Option (State×Int)} {R:State×Int→Prop},Tot (f c) R→Tot ((atI l (n:Int)).bind f) R:=fun hf=>Za (ZbX (by simpa using hg)) hf
   have tame:=hl c hcm
   obtain ⟨z2,z3⟩:=hq c hcm
   refine Zf (ZmG c (by have:=tame.hist;omega)) fun e he=>?_
   refine ZQ (fun hne=>Zb fun e0=>absurd e0 hne) fun h0=>?_
   have cv:=he h0
   refine get ?_
   refine Zf (ZeY (Zu6 hV (by omega) cv tame) (Zw3 hV z2 z3)) fun r hr=>?_
   refine ZQ (fun hne=>Zb fun e0=>absurd e0 hne) fun h0=>?_
   obtain ⟨k1,k2,-,-⟩:=hr.1 h0
   have y2:=hr.2 h0
   refine get ?_
   refine Zf (Zhf c tame) fun b _=>?_
   refine Zaw (fun _=>Zb fun e0=>by cases e0) fun _=>?_
   refine get ?_
   refine Zf (ZeY (Zrz k1 (by omega) cv.user) (Zv8 (q:=q))) fun r2 hr2=>?_
   refine ZQ (fun hne=>Zb fun e0=>absurd e0 hne) fun h0=>?_
   obtain ⟨m1,m2,-⟩:=hr2.1 h0
   obtain ⟨-,x2⟩:=hr2.2 h0
   rw [Zg (by omega) (by omega)]
   refine ih _ ⟨n+1,by dsimp only;omega,by omega,m1,?_,?_⟩ (by first | omega | (dsimp only;omega))
   ·dsimp only at k2 ⊢
    omega
   ·dsimp only at y2 ⊢
    rw [x2,y2,hc1]
  ·exact Zc (fun hc=>absurd hc (by omega)) fun _=>Zb fun _=>hc1
 ·refine Zc (fun _=>hk.1) fun h1=>?_
  rw [decide_eq_false (by omega)]
  exact hk.2
def ZtZ:List Title:=policyT::ZaJ
def nk (t:Title):Bool:=!decide (t ∈ ZtZ)
def MadeK (s:State) (m:Int):Prop:=Made s m∧s.pages.filter (fun p=>nk p.title) = []
theorem ZyF {t:Title} (h:t ∈ ZaJ):nk t=false:=by
 unfold nk ZtZ
 simp [h]
theorem MadeK.mono {s:State} {m m':Int} (h:MadeK s m) (hm:m≤m'):MadeK s m':=⟨h.1.mono hm,h.2⟩
theorem MadeK.title {s:State} {m:Int} (h:MadeK s m):∀ p ∈ s.pages,p.title ∈ ZtZ:=fun p hp=>by
 have:=List.filter_eq_nil_iff.1 h.2 p hp
 unfold nk at this
 simpa using this
theorem Zw4 (t:ByteArray):(begun t).pages.filter (fun p=>nk p.title) = []:=by
 unfold begun
 rfl
theorem Zw5 {s:State} {m:Int} {l:List Change} (h:MadeK s m) (hm:m≤1000) (hl:∀ c ∈ l,c.tame∧c.known) (hn:l.length≤2):Tot (Zao s l) fun r=>r.2=0→MadeK r.1 (m+1):=by
 obtain ⟨h1,h2⟩:=h
 obtain ⟨⟨t,ht,hv⟩,g1,g2⟩:=h1
 obtain ⟨p,hp⟩:=Zgu t ht
 refine (ZeY (ZsE ⟨⟨t,ht,hv⟩,g1,g2⟩ hm (fun c hc=>(hl c hc).1) hn) (ZvN (q:=nk) hv (by omega) ⟨p,0,hp⟩ (fun c hc=>(hl c hc).1) (by omega) fun c hc=>⟨fun a b=>ZyF ((hl c hc).2.title a b),fun a=>ZyF ((hl c hc).2.dest a)⟩)).mono fun r hr h0=>?_
 exact ⟨hr.1 h0,(hr.2 h0).trans h2⟩
theorem ZhW {α:Type} [DecidableEq α]:∀ {l m:List α},l.Nodup→(∀ x ∈ l,x ∈ m)→l.length≤m.length
 | [],_,_,_=>Nat.zero_le _
 | x::l,m,h,hs=>by
   obtain ⟨h1,h2⟩:=List.nodup_cons.1 h
   have hx:=hs x (List.mem_cons_self ..)
   have:=ZhW (l:=l) (m:=m.erase x) h2 fun y hy=>(List.mem_erase_of_ne (fun e=>h1 (by rw [← e];exact hy))).2 (hs y (List.mem_cons_of_mem _ hy))
   rw [List.length_erase_of_mem hx] at this
   have hp:=List.length_pos_of_mem hx
   simp only [List.length_cons]
   omega
theorem Zbg {l:List Title} (h:l.Pairwise tlt):l.Nodup:=h.imp fun {a b} hab e=>by
 rw [e] at hab
 exact ZL _ hab
theorem MadeK.titles {s:State} {m:Int} (h:MadeK s m):(s.pages.map (·.title)).Pairwise tlt:=by
 obtain ⟨t,ht,hv⟩:=h.1.ex
 exact List.pairwise_map.2 hv.sorted
theorem MadeK.plen {s:State} {m:Int} (h:MadeK s m):s.pages.length≤9:=by
 have:=ZhW (Zbg h.titles) fun x hx=>by
  obtain ⟨p,hp,rfl⟩:=List.mem_map.1 hx
  exact h.title p hp
 rw [List.length_map] at this
 exact this
def ZC (l:List Stored) (t:Title):List Revision:=((l.find? fun p=>decide (p.title=t)).map (·.history)).getD []
theorem ZwR {s:State} {u:ByteArray} {z:Int}:Par (ZdF s u z) fun r=>(r.2=0→∃ ls,r.1=⟨s.seq,s.clock,s.pages,s.gone,s.proposals,s.proposed,s.watches,ls⟩)∧(r.2≠0→r.2=8):=by
 unfold ZdF
 refine Zt (fun _=>Zq ⟨fun _=>⟨s.lasts,rfl⟩,fun h=>absurd rfl h⟩) fun _=>?_
 refine Zh6 (fun _=>True) (fun a rec _ ih=>?_) _ _ trivial
 refine Zbz (fun k=>∀ b,Par (k b) fun r:State×Int=>(r.2=0→∃ ls,r.1=⟨s.seq,s.clock,s.pages,s.gone,s.proposals,s.proposed,s.watches,ls⟩)∧(r.2≠0→r.2=8)) (fun b=>?_) fun k hk=>?_
 ·refine ZbU (fun _=>Zz fun _ _=>Zz fun _ _=>ih _ trivial) fun _=>?_
  refine Zbz (fun k=>∀ b,Par (k b) fun r:State×Int=>(r.2=0→∃ ls,r.1=⟨s.seq,s.clock,s.pages,s.gone,s.proposals,s.proposed,s.watches,ls⟩)∧(r.2≠0→r.2=8)) (fun b=>?_) fun k hk=>?_
  ·refine Zbz (fun k=>∀ b,Par (k b) fun r:State×Int=>(r.2=0→∃ ls,r.1=⟨s.seq,s.clock,s.pages,s.gone,s.proposals,s.proposed,s.watches,ls⟩)∧(r.2≠0→r.2=8)) (fun b2=>?_) fun k hk=>?_
   ·refine ZbU (fun _=>Zq ⟨fun h=>(by cases h),fun _=>rfl⟩) fun _=>?_
    refine Zz fun _ _=>?_
    refine Zbz (fun k=>∀ b,Par (k b) fun r:State×Int=>(r.2=0→∃ ls,r.1=⟨s.seq,s.clock,s.pages,s.gone,s.proposals,s.proposed,s.watches,ls⟩)∧(r.2≠0→r.2=8)) (fun b3=>Zz fun _ _=>Zz fun _ _=>Zq ⟨fun _=>⟨_,rfl⟩,fun h=>absurd rfl h⟩) fun k hk=>?_
    exact ZbU (fun _=>hk _) fun _=>hk _
   ·exact ZbU (fun _=>hk _) fun _=>hk _
  ·exact Zt (fun _=>Zz fun _ _=>hk _) fun _=>hk _
 ·exact Zt (fun _=>Zz fun _ _=>hk _) fun _=>hk _
theorem Zqz {t0:ByteArray} {s:State} {l:List Change} {I:Nat→State→Prop} {E:Int→Prop} (h:VS t0 s.seq s) (hs:s.seq<1073741824) (hp:∃ p n,Zai t0=some (p,n,0)) (hl:∀ c ∈ l,c.tame) (hn1:1≤l.length) (hn:l.length≤16) (h0:I 0 s)
  (hcv:∀ c ∈ l,Par (Zby c) fun e=>e≠0→E e) (h7:E 7∨∀ c ∈ l,Par (ZaA c) fun b=>b=false) (h8:E 8)
  (hk:∀ (n:Nat) (c:Change) (st:State),l[n]? = some c→VS t0 (s.seq+1) st→st.seq=s.seq→CV c→I n st→Par (ZbE st c (s.seq+1)) fun r=>(r.2=0→∀ ls,I (n+1) ⟨r.1.seq,r.1.clock,r.1.pages,r.1.gone,r.1.proposals,r.1.proposed,r.1.watches,ls⟩)∧(r.2≠0→E r.2)) :
  Tot (Zao s l) fun r=>(r.2=0→∃ st,I l.length st∧r.1=⟨s.seq+1,st.clock,st.pages,st.gone,st.proposals,st.proposed,st.watches,st.lasts⟩)∧(r.2≠0→E r.2):=by
 have s0:=h.seq0
 unfold Zao
 refine Za (ZrC t0 s h (by omega) hp) ?_
 refine Zs rfl ?_
 have e1:w64 (s.seq+1)=s.seq+1:=Zg (by omega) (by omega)
 refine Zx (fun k=>Tot (k false) fun r:State×Int=>(r.2=0→∃ st,I l.length st∧r.1=⟨s.seq+1,st.clock,st.pages,st.gone,st.proposals,st.proposed,st.watches,st.lasts⟩)∧(r.2≠0→E r.2)) ?_ fun k hk=>?_
 ·refine Zs rfl ?_
  refine Zj (fun a:Int×Int×Int×List Stored×List Stored×List Proposal×Int×List Watch×List Last=>∃ n:Nat,a.1=n∧n≤l.length∧VS t0 (s.seq+1) ⟨a.2.1,a.2.2.1,a.2.2.2.1,a.2.2.2.2.1,a.2.2.2.2.2.1,a.2.2.2.2.2.2.1,a.2.2.2.2.2.2.2.1,a.2.2.2.2.2.2.2.2⟩∧a.2.1=s.seq∧I n ⟨a.2.1,a.2.2.1,a.2.2.2.1,a.2.2.2.2.1,a.2.2.2.2.2.1,a.2.2.2.2.2.2.1,a.2.2.2.2.2.2.2.1,a.2.2.2.2.2.2.2.2⟩) (fun a=>((l.length:Int) - a.1).toNat) ⟨0,rfl,Nat.zero_le _,h.mono (by omega),rfl,h0⟩ (by first | omega | (dsimp only;omega)) ?_
  rintro ⟨i,sq,cl,pg,gn,pr,pd,wt,ls⟩ rec ⟨n,hi,hn',hV,hsq,hI⟩ ih
  dsimp only at hi hV hsq hI
  subst hi hsq
  rw [e1]
  refine Zc (fun hlt=>?_) fun hlt=>?_
  ·refine Zl (by omega) hlt fun c hcm hg=>?_
   have get:∀ {f:Change→Option (State×Int)} {R:State×Int→Prop},Tot (f c) R→Tot ((atI l (n:Int)).bind f) R:=fun hf=>Za (ZbX (by simpa using hg)) hf
   have tame:=hl c hcm
   refine Zf (ZeY (ZmG c (by have:=tame.hist;omega)) (hcv c hcm)) fun e he=>?_
   refine ZQ (fun hne=>Zb ⟨fun e0=>absurd e0 hne,fun _=>he.2 hne⟩) fun h0=>?_
   have cv:=he.1 h0
   refine get ?_
   refine Zf (ZeY (Zu6 hV (by omega) cv tame) (hk n c _ (by simpa using hg) hV rfl cv hI)) fun r hr=>?_
   refine ZQ (fun hne=>Zb ⟨fun e0=>absurd e0 hne,fun _=>hr.2.2 hne⟩) fun h0=>?_
   obtain ⟨k1,k2,-,-⟩:=hr.1 h0
   have y2:=hr.2.1 h0
   refine get ?_
   refine Zf (Q:=fun b=>b=true→E 7) ?_ fun b hb=>?_
   ·rcases h7 with h7 | h7
    ·exact (Zhf c tame).mono fun _ _ _=>h7
    ·exact (ZeY (Zhf c tame) (h7 c hcm)).mono fun b hb e=>by rw [hb.2] at e;cases e
   refine Zaw (fun e=>Zb ⟨fun e0=>(by cases e0),fun _=>hb e⟩) fun _=>?_
   refine get ?_
   refine Zf (ZeY (Zrz k1 (by omega) cv.user) ZwR) fun r2 hr2=>?_
   refine ZQ (fun hne=>Zb ⟨fun e0=>absurd e0 hne,fun _=>by rw [hr2.2.2 hne];exact h8⟩) fun h0=>?_
   obtain ⟨m1,m2,-⟩:=hr2.1 h0
   obtain ⟨ls2,x2⟩:=hr2.2.1 h0
   rw [Zg (by omega) (by omega)]
   refine ih _ ⟨n+1,by dsimp only;omega,by omega,m1,?_,?_⟩ (by first | omega | (dsimp only;omega))
   ·dsimp only at k2 ⊢
    omega
   ·dsimp only
    rw [x2]
    exact y2 ls2
  ·refine Zc (fun hc=>absurd hc (by omega)) fun _=>Zb ⟨fun _=>?_,fun h=>absurd rfl h⟩
   obtain rfl:n=l.length:=by omega
   exact ⟨_,hI,rfl⟩
 ·refine Zc (fun c=>absurd c (by omega)) fun h1=>?_
  rw [decide_eq_false (by omega)]
  exact hk
theorem Zps {l:List Stored} (h:l.Pairwise fun a b=>tlt a.title b.title) {p q:Stored} (hp:p ∈ l) (hq:q ∈ l) (e:p.title=q.title):p=q:=by
 obtain ⟨i,hi⟩:=List.getElem?_of_mem hp
 obtain ⟨j,hj⟩:=List.getElem?_of_mem hq
 rcases Nat.lt_trichotomy i j with c | c | c
 ·have:=Zin h c hi hj
  rw [e] at this
  exact absurd this (ZL _)
 ·subst c
  rw [hi] at hj
  injection hj
 ·have:=Zin h c hj hi
  rw [e] at this
  exact absurd this (ZL _)
def rdB (l:List Stored) (P:Policy) (G:List ByteArray) (t:Title):Bool:=l.any (fun p=>decide (p.title=t))&&ZiO P G 1 t
structure StepOK (M:State→Int→Prop):Prop where
 mono:∀ s m m',M s m→m≤m'→M s m'
 pos:∀ s m,M s m→0≤m
 step:∀ s m l,M s m→m≤1000→(∀ c ∈ l,c.tame∧c.known)→1≤l.length→l.length≤2→Tot (Zao s l) fun r=>r.2=0→M r.1 (m+1)
 start:∀ t ∈ policyG,M (begun t) 1
theorem ZuT (s:SrcF) (clock:Int) (hs:s.ok):Tot (ZgA s clock) fun r=>(∀ c ∈ r.1,c.tame∧c.known)∧(1≤r.1.length∧r.1.length≤2)∧r.2.ok:=by
 unfold ZgA
 refine Zf (ZcB s 6 hs (by omega) (by omega)) fun r hr=>?_
 have hq:0≤Int.tdiv r.1 3∧Int.tdiv r.1 3≤1:=by
  have:=hr.1
  rw [Int.tdiv_eq_ediv_of_nonneg this.1]
  omega
 refine Zwf (by decide) ?_
 have e:IntKind.wrap .i64 (Int.tdiv r.1 3)=Int.tdiv r.1 3:=Zg (by omega) (by omega)
 rw [e]
 refine Zj (fun a:Int×List Int×Int×Int×List Change=>((a.2.2.2.2.length:Int)+a.1=1+Int.tdiv r.1 3∧0≤a.1∧a.1≤2)∧(∀ c ∈ a.2.2.2.2,c.tame∧c.known)∧(⟨a.2.1,a.2.2.1,a.2.2.2.1⟩:SrcF).ok) (fun a=>a.1.toNat) ⟨?_,by simp,hr.2⟩ ?_ ?_
 ·dsimp only
  rw [Zg (by omega) (by omega)]
  simp
  omega
 ·dsimp only
  rw [Zg (by omega) (by omega)]
  omega
 rintro ⟨n,l,p,sd,out⟩ rec ⟨⟨h1,h2,h3⟩,h4,h5⟩ ih
 dsimp only at h1 h2 h3 h4 h5 ⊢
 refine Zc (fun h=>?_) fun h=>?_
 ·refine Zf (ZvM _ clock h5) fun r1 q1=>?_
  refine ZK 2 (by simp;omega) (by decide) (by decide) ?_
  refine ih _ ⟨?_,?_,q1.2⟩ ?_
  ·dsimp only
   rw [Zg (by omega) (by omega)]
   simp
   omega
  ·intro c hc
   rcases List.mem_append.1 hc with hc | hc
   ·exact h4 c hc
   ·simp at hc
    rw [hc]
    exact q1.1
  ·dsimp only
   rw [Zg (by omega) (by omega)]
   omega
 ·exact Zb ⟨h4,by dsimp only;omega,h5⟩
theorem ZxZ {M:State→Int→Prop} (H:StepOK M) (s:State) (r:SrcF) (n m:Int) (h:M s m) (hr:r.ok) (hn:0≤n) (hm:m+n≤1000):Tot (ZjZ s r n) fun q=>M q.1 (m+n)∧q.2.ok:=by
 have m0:0≤m:=H.pos _ _ h
 unfold ZjZ
 refine Zj (fun a:Int×List Int×Int×Int×Int×Int×List Stored×List Stored×List Proposal×Int×List Watch×List Last=>(0≤a.1∧a.1≤n)∧(⟨a.2.1,a.2.2.1,a.2.2.2.1⟩:SrcF).ok∧M ⟨a.2.2.2.2.1,a.2.2.2.2.2.1,a.2.2.2.2.2.2.1,a.2.2.2.2.2.2.2.1,a.2.2.2.2.2.2.2.2.1,a.2.2.2.2.2.2.2.2.2.1,a.2.2.2.2.2.2.2.2.2.2.1,a.2.2.2.2.2.2.2.2.2.2.2⟩ (m+n - a.1)) (fun a=>a.1.toNat) ⟨⟨hn,Int.le_refl _⟩,hr,H.mono _ _ _ h (by dsimp only;omega)⟩ (by dsimp only;omega) ?_
 rintro ⟨i,l,p,sd,sq,cl,pg,gn,pr,pd,wt,ls⟩ rec ⟨⟨h1,h2⟩,h3,h4⟩ ih
 dsimp only at h1 h2 h3 h4
 refine Zc (fun hlt=>?_) fun hlt=>?_
 ·refine ZJ ?_
  refine Zf (ZuT _ cl h3) fun c hc=>?_
  rw [Zg (by omega) (by omega)]
  refine Zf (H.step _ _ _ h4 (by omega) hc.1 hc.2.1.1 hc.2.1.2) fun r hr=>?_
  refine Zc (fun h0=>?_) fun _=>?_
  ·refine ih _ ⟨⟨by dsimp only;omega,by dsimp only;omega⟩,hc.2.2,H.mono _ _ _ (hr h0) (by dsimp only;omega)⟩ (by first | omega | (dsimp only;omega))
  ·refine ih _ ⟨⟨by dsimp only;omega,by dsimp only;omega⟩,hc.2.2,H.mono _ _ _ h4 (by dsimp only;omega)⟩ (by first | omega | (dsimp only;omega))
 ·exact Zb ⟨H.mono _ _ _ h4 (by omega),h3⟩
theorem Zo5 {M:State→Int→Prop} (H:StepOK M) (l:List Int) (hl:l.length≤9223372036854775807):Tot (ZfS l) fun s=>M s 20:=by
 unfold ZfS
 refine Zf (ZpJ l hl) fun s hs=>?_
 refine Zf (ZvT s hs) fun r hr=>?_
 obtain ⟨p,hp⟩:=Zgu r.1 hr.1
 have hsz:=ZpE r.1 hr.1
 refine Za (Zw7 r.1 hsz ⟨p,0,hp⟩) ?_
 have hb:M (begun r.1) 1:=H.start r.1 hr.1
 refine Zf (ZcB _ 5 hr.2 (by omega) (by omega)) fun q hq=>?_
 rw [Zg (by omega) (by omega)]
 refine Zj (fun a:Int×Int×Int×List Stored×List Stored×List Proposal×Int×List Watch×List Last×List Int×Int×Int=>(0≤a.1∧a.1≤3+q.1)∧(⟨a.2.2.2.2.2.2.2.2.2.1,a.2.2.2.2.2.2.2.2.2.2.1,a.2.2.2.2.2.2.2.2.2.2.2⟩:SrcF).ok∧M ⟨a.2.1,a.2.2.1,a.2.2.2.1,a.2.2.2.2.1,a.2.2.2.2.2.1,a.2.2.2.2.2.2.1,a.2.2.2.2.2.2.2.1,a.2.2.2.2.2.2.2.2.1⟩ (1+a.1)) (fun a=>(3+q.1 - a.1).toNat) ⟨⟨by dsimp only;omega,by dsimp only;omega⟩,hq.2,hb⟩ (by dsimp only;omega) ?_
 rintro ⟨i,sq,cl,pg,gn,pr,pd,wt,ls,li,ps,sd⟩ rec ⟨⟨h1,h2⟩,h3,h4⟩ ih
 dsimp only at h1 h2 h3 h4
 refine Zc (fun hlt=>?_) fun hlt=>?_
 ·refine ZJ ?_
  refine Zf (Zuc _ h3) fun u hu=>?_
  refine Za (v:=ZaJ) rfl ?_
  refine Zl h1 (by show i<8;omega) fun e he _=>?_
  refine Zf (ZrS _ hu.2) fun x hx=>?_
  rw [Zg (by omega) (by omega)]
  refine Zf (H.step _ _ _ h4 (by omega) (fun c hc=>?_) (by simp) (by simp)) fun r hr=>?_
  ·simp at hc
   subst hc
   exact ⟨⟨Zb3 e he,ZcQ,by simp,by simp,by simp,hx.1⟩,⟨fun _ _=>he,fun e=>by cases e⟩⟩
  refine Zc (fun h0=>?_) fun _=>?_
  ·exact ih _ ⟨⟨by dsimp only;omega,by dsimp only;omega⟩,hx.2,H.mono _ _ _ (hr h0) (by dsimp only;omega)⟩ (by first | omega | (dsimp only;omega))
  ·exact ih _ ⟨⟨by dsimp only;omega,by dsimp only;omega⟩,hx.2,H.mono _ _ _ h4 (by dsimp only;omega)⟩ (by first | omega | (dsimp only;omega))
 ·refine Zf (ZcB _ 7 h3 (by omega) (by omega)) fun a ha=>?_
  refine Zf (ZxZ H _ _ _ (1+i) h4 ha.2 ha.1.1 (by omega)) fun r hr=>?_
  exact Zb (H.mono _ _ _ hr.1 (by omega))
def Fw (s:State) (r:State×Int):Prop:=r.2=0→r.1.watches=s.watches
theorem Zzh {s:State} {c:Change} {z:Int}:Par (Zej s c z) (Fw s):=by
 unfold Zej
 refine Zz fun _ _=>Zt (fun _=>Zt (fun _=>Zq fun _=>rfl) fun _=>Zz fun _ _=>Zq fun _=>rfl) fun _=>?_
 refine Zz fun _ _=>Zt (fun _=>Zq fun _=>rfl) fun _=>?_
 exact Zz fun _ _=>Zz fun _ _=>Zz fun _ _=>Zz fun _ _=>Zq fun _=>rfl
theorem ZuU {s:State} {c:Change}:Par (ZcT s c) (Fw s):=by
 unfold ZcT
 refine Zz fun _ _=>Zt (fun _=>Zq fun _=>rfl) fun _=>Zt (fun _=>Zq fun _=>rfl) fun _=>?_
 exact Zz fun _ _=>Zz fun _ _=>Zz fun _ _=>Zz fun _ _=>Zz fun _ _=>Zq fun _=>rfl
theorem Zs6 {s:State} {c:Change}:Par (Zch s c) (Fw s):=by
 unfold Zch
 refine Zz fun _ _=>Zz fun _ _=>Zt (fun _=>Zq fun _=>rfl) fun _=>Zt (fun _=>Zq fun _=>rfl) fun _=>Zt (fun _=>Zq fun _=>rfl) fun _=>?_
 exact Zz fun _ _=>Zz fun _ _=>Zz fun _ _=>Zq fun _=>rfl
theorem Zx0 {s:State} {c:Change} {z:Int}:Par (Ze5 s c z) (Fw s):=by
 unfold Ze5
 refine Zz fun _ _=>Zt (fun _=>Zq fun _=>rfl) fun _=>Zz fun _ _=>Zt (fun _=>Zq fun _=>rfl) fun _=>Zt (fun _=>Zq fun _=>rfl) fun _=>Zz fun _ _=>?_
 refine Zh6 (fun _=>True) (fun a rec _ ih=>?_) _ _ trivial
 exact Zt (fun _=>Zz fun _ _=>ih _ trivial) fun _=>Zz fun _ _=>Zq fun _=>rfl
theorem Zx1 {s:State} {c:Change} {z:Int}:Par (Ze7 s c z) (Fw s):=by
 unfold Ze7
 refine Zz fun _ _=>Zt (fun _=>Zq fun _=>rfl) fun _=>Zz fun _ _=>Zt (fun _=>Zq fun _=>rfl) fun _=>?_
 refine Zbz (fun k=>∀ b,Par (k b) (Fw s)) (fun b=>?_) fun k hk=>?_
 ·refine ZbU (fun _=>Zq fun _=>rfl) fun _=>Zz fun _ _=>Zz fun _ _=>Zz fun _ _=>?_
  refine Zbz (fun k=>∀ l:List Stored,Par (k l) (Fw s)) (fun l=>Zz fun d _=>Zq fun _=>rfl) fun k hk=>?_
  exact Zt (fun _=>Zz fun _ _=>Zz fun _ _=>hk _) fun _=>hk _
 ·exact Zt (fun _=>hk _) fun _=>hk _
theorem Zs7 {s:State} {c:Change}:Par (Zcf s c) (Fw s):=by
 unfold Zcf
 refine Zbz (fun k=>∀ b,Par (k b) (Fw s)) (fun b=>?_) fun k hk=>?_
 ·exact ZbU (fun _=>Zq fun _=>rfl) fun _=>Zz fun _ _=>Zz fun _ _=>Zq fun _=>rfl
 ·exact Zt (fun _=>hk _) fun _=>hk _
theorem Zx2 {s:State} {c:Change} (hl:s.proposals.length≤1000000):Par (ZgV s c) (Fw s):=fun v e h0=>by
 obtain ⟨l,_,h⟩:=ZbS (ZuI s c hl) v e h0
 rw [h]
theorem Zwg {s:State} {c:Change}:Par (ZcK s c) fun r=>r.2=0→∀ w ∈ r.1.watches,w ∈ s.watches∨w=⟨c.user,c.title⟩:=by
 unfold ZcK
 refine Zh6 (fun a:Int×List Watch=>∀ w ∈ a.2,w ∈ s.watches) (fun a rec ha ih=>?_) _ _ (fun w hw=>by cases hw)
 obtain ⟨i,out⟩:=a
 dsimp only at ha ⊢
 refine Zbz (fun k=>∀ b,Par (k b) fun r:State×Int=>r.2=0→∀ w ∈ r.1.watches,w ∈ s.watches∨w=⟨c.user,c.title⟩) (fun b=>?_) fun k hk=>?_
 ·refine ZbU (fun _=>?_) fun _=>?_
  ·refine Zgy fun e he=>Zcm (ih _ fun w hw=>?_)
   rcases List.mem_append.1 hw with hw | hw
   ·exact ha w hw
   ·simp at hw
    rw [hw]
    exact List.mem_of_getElem? he
  refine Zbz (fun k=>∀ b,Par (k b) fun r:State×Int=>r.2=0→∀ w ∈ r.1.watches,w ∈ s.watches∨w=⟨c.user,c.title⟩) (fun b=>?_) fun k hk=>?_
  ·have hsub:∀ (a b:Int) (x:List Watch),ZjA s.watches a b=some x→∀ w ∈ x,w ∈ s.watches:=fun a b x hx w hw=>by
    unfold ZjA at hx
    split at hx
    ·injection hx with hx
     rw [← hx] at hw
     exact List.mem_of_mem_drop (List.mem_of_mem_take hw)
    ·cases hx
   refine Zt (fun _=>?_) fun _=>?_
   ·refine ZbU (fun _=>Zq fun e=>by cases e) fun _=>?_
    refine Zz fun x hx=>Zcm (Zq fun _ w hw=>.inl ?_)
    rcases List.mem_append.1 hw with hw | hw
    ·exact ha w hw
    ·exact hsub _ _ _ hx w hw
   ·refine ZbU (fun _=>Zq fun e=>by cases e) fun _=>?_
    refine Zt (fun _=>Zq fun e=>by cases e) fun _=>?_
    refine Zcm (Zz fun x hx=>Zcm (Zq fun _ w hw=>?_))
    rcases List.mem_append.1 hw with hw | hw
    ·rcases List.mem_append.1 hw with hw | hw
     ·exact .inl (ha w hw)
     ·simp at hw
      exact .inr hw
    ·exact .inl (hsub _ _ _ hx w hw)
  ·exact Zt (fun _=>Zz fun _ _=>hk _) fun _=>hk _
 ·exact Zt (fun _=>Zz fun _ _=>Zz fun _ _=>hk _) fun _=>hk _
theorem Zx3 {t0:ByteArray} {s:State} {c:Change} {z y:Int} (hv:VS t0 y s) (hc:CV c):Par (ZbE s c z) fun r=>r.2=0→∀ w ∈ r.1.watches,w ∈ s.watches∨(c.kind≠10∧c.kind≠6∧w=⟨c.user,c.title⟩):=by
 have hpr:=hv.prlen
 have un:∀ {x:Option (State×Int)},Par x (Fw s)→Par (x.bind fun r=>(some (r.1,r.2):Option (State×Int))) fun r=>r.2=0→∀ w ∈ r.1.watches,w ∈ s.watches∨(c.kind≠10∧c.kind≠6∧w=⟨c.user,c.title⟩):=fun hx=>ZaW hx fun v hv=>Zq fun h0 w hw=>.inl (by
  rw [hv h0] at hw
  exact hw)
 unfold ZbE
 refine Zt (fun e=>un Zzh) fun e1=>?_
 refine Zt (fun e=>un ZuU) fun e2=>?_
 refine Zt (fun e=>un Zs6) fun e3=>?_
 refine Zt (fun e=>un Zx1) fun e4=>?_
 refine Zt (fun e=>un Zx0) fun e5=>?_
 refine Zt (fun e=>Zt (fun _=>Zq fun e=>by cases e) fun _=>Zq fun _ w hw=>.inl hw) fun e6=>?_
 refine Zbz (fun k=>(c.kind=7∨c.kind=8→Par (k true) fun r:State×Int=>r.2=0→∀ w ∈ r.1.watches,w ∈ s.watches∨(c.kind≠10∧c.kind≠6∧w=⟨c.user,c.title⟩))∧Par (k false) fun r:State×Int=>r.2=0→∀ w ∈ r.1.watches,w ∈ s.watches∨(c.kind≠10∧c.kind≠6∧w=⟨c.user,c.title⟩)) ⟨fun h78=>?_,?_⟩ fun k hk=>?_
 ·refine ZbU (fun _=>?_) fun e=>by cases e
  refine ZaW Zwg fun v hv=>Zq fun h0 w hw=>?_
  rcases hv h0 w hw with h | h
  ·exact .inl h
  ·exact .inr ⟨by omega,by omega,h⟩
 ·refine ZbU (fun e=>by cases e) fun _=>?_
  refine Zt (fun _=>un Zs7) fun _=>?_
  exact un (Zx2 (by omega))
 ·refine Zt (fun e=>?_) fun e=>?_
  ·rw [decide_eq_true e]
   exact hk.1 (.inl e)
  ·by_cases e8:c.kind=8
   ·rw [decide_eq_true e8]
    exact hk.1 (.inr e8)
   ·rw [decide_eq_false e8]
    exact hk.2
def Zhr (s:State) (m:Int):Prop:=MadeK s m∧∀ w ∈ s.watches,w.title ∈ ZaJ
theorem Zx4 {s:State} {m:Int} {l:List Change} (h:Zhr s m) (hm:m≤1000) (hl:∀ c ∈ l,c.tame∧c.known) (hn1:1≤l.length) (hn:l.length≤2):Tot (Zao s l) fun r=>r.2=0→Zhr r.1 (m+1):=by
 obtain ⟨h1,h2⟩:=h
 have h1':=h1
 obtain ⟨⟨⟨t,ht,hv⟩,g1,g2⟩,-⟩:=h1'
 obtain ⟨p,hp⟩:=Zgu t ht
 refine (ZeY (Zw5 h1 hm hl hn) (ZbS (Zqz (I:=fun _ st=>∀ w ∈ st.watches,w.title ∈ ZaJ) (E:=fun _=>True) hv (by omega) ⟨p,0,hp⟩ (fun c hc=>(hl c hc).1) hn1 (by omega) h2 (fun _ _ _ _ _=>trivial) (.inl trivial) trivial fun n c st hc hV hsq cv hI=>?_))).mono fun r hr h0=>?_
 ·refine Zj0 (Zx3 hV cv) fun r hr=>⟨fun h0 ls w hw=>?_,fun _=>trivial⟩
  rcases hr h0 w hw with h | ⟨k1,k2,rfl⟩
  ·exact hI w h
  ·exact (hl c (List.mem_of_getElem? hc)).2.title k1 k2
 ·obtain ⟨st,hst,e⟩:=hr.2.1 h0
  refine ⟨hr.1 h0,?_⟩
  rw [e]
  exact hst
theorem madeW:StepOK Zhr where
 mono:=fun s m m' h hm=>⟨h.1.mono hm,h.2⟩
 pos:=fun s m h=>by
  obtain ⟨t,ht,hv⟩:=h.1.1.ex
  have:=hv.seq0
  have:=h.1.1.seq
  omega
 step:=fun s m l h hm hl h1 h2=>Zx4 h hm hl h1 h2
 start:=fun t ht=>⟨⟨⟨⟨t,ht,ZvR t (ZpE t ht)⟩,Int.le_refl _,by show (0:Int)≤4000 * 1;decide⟩,Zw4 t⟩,fun w hw=>by cases hw⟩
structure Rd2 (s:State) (u:ByteArray) (P:Policy) (G:List ByteArray):Prop where
 rd:RdAt s u P G
 ref:Zdu s=some P
 gref:Zfk P u=some G
theorem Zr7 {t0:ByteArray} {q:Int} {s:State} {u:ByteArray} (hv:VS t0 q s) (ht:t0 ∈ policyG) (hu:u ∈ usersG):∃ P0 ∈ polsG,∃ G,Rd2 s u (Zb4 P0 s.pages) G∧∀ (s':State) (q':Int),VS t0 q' s'→ZdR s'.pages=ZdR s.pages→Rd2 s' u (Zb4 P0 s.pages) G:=by
 obtain ⟨P0,hP,hr,hp⟩:=Zq7 t0 ht
 obtain ⟨e1,e2⟩:=Zy0 hv hr hp
 have hin:=ZvZ hP s.pages
 obtain ⟨G,g1,g2,g3⟩:=Zrc _ hin u hu
 refine ⟨P0,hP,G,⟨⟨hin,e2,g2,g3⟩,e1,g1⟩,fun s' q' hv' hh=>?_⟩
 obtain ⟨f1,f2⟩:=Zy0 hv' hr hp
 have:Zb4 P0 s'.pages=Zb4 P0 s.pages:=by
  unfold Zb4
  rw [hh]
 rw [this] at f1 f2
 exact ⟨⟨hin,f2,g2,g3⟩,f1,g1⟩
theorem Zdv {s:State} {u:ByteArray} {P:Policy} {G:List ByteArray} (h:Rd2 s u P G) (hl:s.pages.length≤1000000) (t:Title):ZaT s u t=some (rdB s.pages P G t):=by
 have hR:=(ZiD _ h.rd.pol).1
 refine ZV ?_
 unfold ZaT
 refine Zf (Zu7 s t hl) fun r hr=>?_
 refine ZJ ?_
 rcases hr with ⟨h1,h2⟩ | ⟨h1,h2,h3⟩
 ·refine Zs h1 (Zb ?_)
  have:s.pages.any (fun p=>decide (p.title=t))=false:=by
   rw [List.any_eq_false]
   intro p hp
   simpa using h2 p hp
  unfold rdB
  rw [this]
  rfl
 ·refine ZH h1 ?_
  refine Za (v:=ZiO P G 1 t) ?_ (Zb ?_)
  ·refine ZV ?_
   unfold ZoK
   refine Za h.ref ?_
   refine Za h.gref ?_
   exact Za (v:=ZiO P G 1 t) (by unfold Zn3;rw [if_pos (by omega)]) (Zb rfl)
  ·have:s.pages.any (fun p=>decide (p.title=t))=true:=by
    rw [List.any_eq_true]
    exact ⟨_,h2,decide_eq_true h3⟩
   unfold rdB
   rw [this]
   rfl
theorem Zgm:w42_awake=some true:=by
 unfold w42_awake
 kernel_rfl
end Go.Proofs.YtjoneoobolnnbaaGreatDoor
namespace Go.Proofs.YtjoneoobolnnbaaGreatDoor
open Go.RowKit Go.ChangeShapes Go.WideShapes Go.Deep
theorem ZjP {α:Type} (f:Nat→Option α):∀ n,(∀ i,i<n→∃ t,f i=some t)→((List.range n).filterMap f).length=n∧∀ i,i<n→((List.range n).filterMap f)[i]? = f i
 | 0,_=>⟨rfl,fun i h=>absurd h (by omega)⟩
 | n+1,h=>by
   obtain ⟨h1,h2⟩:=ZjP f n fun i hi=>h i (by omega)
   obtain ⟨t,ht⟩:=h n (by omega)
   rw [List.range_succ,List.filterMap_append]
   have e:List.filterMap f [n] = [t]:=by simp [ht]
   rw [e]
   refine ⟨by simp [h1],fun i hi=>?_⟩
   rcases Nat.lt_or_ge i n with hl | hl
   ·rw [List.getElem?_append_left (by omega)];exact h2 i hl
   ·obtain rfl:i=n:=by omega
    rw [List.getElem?_append_right (by omega),h1,ht];simp
section
variable {H:Type} {enc:TypeId×Value→H} {P:Program} {W:World}
def Rd (enc:TypeId×Value→H) (P:Program) (W:World) (T:TypeId) (α:Type) [Enc α]:Prop:=
 ∀ fuel cs x,DataW.trod enc P W 0 (fun _=>true) true fuel T cs=some x→∃ t:α,Enc.RT W t cs
theorem ZyA {T:TypeId} (hT:P.underlying T=some (.int .i64)):Rd enc P W T Int:=fun _ _ _ h=>by
 obtain ⟨n,hc,_⟩:=DataW.trod_int hT h
 exact ⟨n,hc⟩
theorem Zvu {S E:TypeId} {α:Type} [Enc α] (hS:P.underlying S=some (.slice E)) (hk:P.cellsOf E=Enc.k α) (h0:0<Enc.k α) (hE:Rd enc P W E α):Rd enc P W S (List α):=fun fuel cs x h=>by
 rcases open_slice hS h with ⟨hc,_⟩ | ⟨a,len,cap,m,n,D,Pl,hc,_,hl,hm,hmm,_,hel⟩
 ·exact ⟨[],none,0,0,hc,SlR.nil W⟩
 ·have hm':m=cap:=by simpa using hmm
  have hx:∀ i,∃ (cs':List Value) (t:Option α),i<len→∃ t',t=some t'∧Enc.RT W t' cs'∧∀ j v,cs'[j]? = some v→W.cell? (a.add (i * P.cellsOf E+j))=some v:=fun i=>by
   by_cases hi:i<len
   ·obtain ⟨cs',h1,h2⟩:=hel i (by omega)
    obtain ⟨t,ht⟩:=hE _ _ _ h2
    obtain ⟨_,hlen,hcell⟩:=World.cells?_some h1
    refine ⟨cs',some t,fun _=>⟨t,rfl,ht,fun j v hj=>?_⟩⟩
    have hjl:j<P.cellsOf E:=by rw [← hlen];exact (List.getElem?_eq_some_iff.1 hj).1
    rw [← Go.Deep.add_add,hcell j hjl,hj]
   ·exact ⟨[],none,fun h=>absurd h hi⟩
  obtain ⟨css,hx⟩:=Classical.axiomOfChoice hx
  obtain ⟨ts,hx⟩:=Classical.axiomOfChoice hx
  refine ⟨(List.range len).filterMap ts,some a,len,cap,hc,?_⟩
  have hlen:((List.range len).filterMap ts).length=len∧∀ i,i<len→((List.range len).filterMap ts)[i]? = ts i:=ZjP ts len fun i hi=>by
   obtain ⟨t,ht,_⟩:=hx i hi
   exact ⟨t,ht⟩
  refine ⟨hlen.1.symm,hl,by unfold maxLen at hm;exact hm,fun hpos=>?_⟩
  obtain ⟨t0,_,hR0,hc0⟩:=hx 0 hpos
  have hl0:=Enc.len hR0
  have hcell0:=hc0 0 ((css 0)[0]'(by omega)) (List.getElem?_eq_getElem (by omega))
  obtain ⟨b,off,spot⟩:=a
  have hspot:spot=none:=by
   simp only [Nat.zero_mul,Nat.add_zero,Addr.add,if_true] at hcell0
   cases spot with
   | none=>rfl
   | some s=>
     exfalso
     unfold World.cell? at hcell0
     split at hcell0<;>simp at hcell0
  subst hspot
  refine ⟨b,off,css,rfl,trivial,?_,fun i x hi=>?_⟩
  ·simp only [Nat.zero_mul,Nat.add_zero,Addr.add,if_true] at hcell0
   exact ZbA hcell0
  ·have hil:i<len:=by rw [← hlen.1];exact (List.getElem?_eq_some_iff.1 hi).1
   obtain ⟨t,ht,hR,hcell⟩:=hx i hil
   rw [hlen.2 i hil,ht] at hi
   obtain rfl:t=x:=by simpa using hi
   refine ⟨hR,fun j v hj=>?_⟩
   have:=hcell j v hj
   rw [hk] at this
   unfold Addr.add at this
   split at this
   ·rename_i h0;rw [Nat.add_assoc,h0];exact this
   ·rw [Nat.add_assoc];exact this
theorem Zss {α:Type}:∀ {l:List α},l.length=2→∃ a b,l = [a,b]
 | [a,b],_=>⟨a,b,rfl⟩
end
end Go.Proofs.YtjoneoobolnnbaaGreatDoor
namespace Go.Proofs.YtjoneoobolnnbaaGreatDoor
open Go.RowKit Go.ChangeShapes Go.WideShapes Go.Deep
theorem Zv2:Tryz.prog.cellsOf 3=1:=by kernel_rfl
section
variable {H:Type} {enc:TypeId×Value→H} {W:World}
theorem ZzG:Rd enc Tryz.prog W 3 Int:=ZyA Tryz.underlying3
end
end Go.Proofs.YtjoneoobolnnbaaGreatDoor
namespace Go.Proofs.YtjoneoobolnnbaaGreatDoor
open VL Go.RowKit Go.ChangeShapes Go.WideShapes
theorem Zli {H:Type} {enc:TypeId×Value→H} {W:World}:Rd enc Tryz.prog W 35 (List Int):=Zvu Tryz.underlying35 Zv2 (by decide) ZzG
theorem ZlO {W:World} (h:laidMetH Tryz.prog [("unicode/utf8.acceptRanges",Rows.laid_unicode_utf8_acceptRanges),("transclude/edit.rules",Rows.laid_transclude_edit_rules),("unicode/utf8.first",Rows.laid_unicode_utf8_first)] W) :
  W.cell? ⟨0,0,none⟩=some (.int .i64 5)∧W.cell? ⟨0,1,none⟩=some (.string ⟨#[80,111,108,105,99,121]⟩):=by
 rw [MakeChecks.laidMetH_plain _ _ _ (by kernel_rfl)] at h
 obtain ⟨_,⟨_,_,_,_,_,_,_,_,_,_,⟨g,t,cs,fuel,p,q,hg,ht,hv,hd,_,_⟩,_⟩,_,_⟩:=h
 obtain rfl:=Option.some.inj ((show Tryz.prog.globalNamed "transclude/edit.rules" = some 0 by kernel_rfl).symm.trans hg)
 obtain rfl:=Option.some.inj ((show (Tryz.prog.globals[0]?).map (·.type)=some 29 by kernel_rfl).symm.trans ht)
 obtain ⟨y0,y1,n,ex,hl,h0,h1⟩:=trod_struct2 Tryz.underlying29 hd
 obtain ⟨z,e1,e2,_⟩:=DataW.trod_int Tryz.underlying3 h0
 obtain ⟨s,e3,e4,_⟩:=DataW.trod_string Tryz.underlying9 h1
 have c2:Tryz.prog.cellsOf 29=2:=by kernel_rfl
 have ci:Tryz.prog.cellsOf 3=1:=by kernel_rfl
 have cs1:Tryz.prog.cellsOf 9=1:=by kernel_rfl
 rw [c2] at hl
 rw [ci] at e1
 rw [cs1] at e3
 have hx:=(Prod.mk.inj ex).1
 simp only [Rows.laid_transclude_edit_rules,e2,e4,DataW.agg.injEq,List.cons.injEq,DataW.lit.injEq,Lit.int.injEq,Lit.string.injEq,true_and,and_true] at hx
 obtain ⟨rfl,hs⟩:=hx
 obtain rfl:s=⟨#[80,111,108,105,99,121]⟩:=by
  obtain ⟨⟨l⟩⟩:=s
  exact congrArg (fun l:List UInt8=>(⟨⟨l⟩⟩:ByteArray)) hs.symm
 obtain ⟨x0,x1,hcs⟩:=Zss hl
 rw [hcs] at e1 e3
 cases (show [x0] = [_] from e1)
 cases (show [x1] = [_] from e3)
 have hc0:=World.var?_cell hg hv 0
 have hc1:=World.var?_cell hg hv 1
 rw [← Array.getElem?_toList,hcs] at hc0 hc1
 exact ⟨hc0,hc1⟩
theorem Zr9 {W:World} (hG:Glob W) (hR:W.cell? ⟨0,0,none⟩=some (.int .i64 5)∧W.cell? ⟨0,1,none⟩=some (.string ⟨#[80,111,108,105,99,121]⟩)) (W':World) (hb:Below W.heap.size W W'):WInv.I Tryz.prog W':=
 ⟨hG.imp fun _ hm=>re1 hb (ZbA hm) hm,re1 hb (ZbA hR.1) hR.1,re1 hb (ZbA hR.2) hR.2⟩
end Go.Proofs.YtjoneoobolnnbaaGreatDoor
