/- LinksOwn: the row and its card. Whatever the lists and -/
import Derived.Test.YtmgfammllddkhaaGreatDoorCards
import Derived.Test.YtmgfammllddkhaaGreatDoorTie
import Derived.Test.YtmgfammllddkhaaGreatDoorCO20
import Derived.Deep.DeepHandedRow
import Derived.ShutString
set_option linter.unusedVariables false
set_option maxRecDepth 100000
namespace Go.Proofs.YtmgfammllddkhaaGreatDoor.lawLinksOwn
open Go.ChangeShapes Go.WideShapes Go.ChangeAt Go.RowKit
open Go.ChangeMaps (open_string shut_string)
theorem own:ownKnob Tryz.prog.godebug=none:=by kernel_rfl
theorem Zyc:laidOutB Tryz.prog=true:=by kernel_rfl
def firstCells:Array Value:=List.toArray (Go.Pinned.utf8FirstZ.map fun (n:Nat)=>Value.int .u8 (n:Int))
def Zr9:Array Value:=#[.int .u8 128,.int .u8 191,.int .u8 160,.int .u8 191,.int .u8 128,.int .u8 159,.int .u8 144,.int .u8 191,.int .u8 128,.int .u8 143,.int .u8 0,.int .u8 0,.int .u8 0,.int .u8 0,.int .u8 0,.int .u8 0,.int .u8 0,.int .u8 0,.int .u8 0,.int .u8 0,.int .u8 0,.int .u8 0,.int .u8 0,.int .u8 0,.int .u8 0,.int .u8 0,.int .u8 0,.int .u8 0,.int .u8 0,.int .u8 0,.int .u8 0,.int .u8 0]
def rL (cs:Array Value):Obj->Obj | .cells _ t frozen=>.cells cs t frozen | o=>o
noncomputable def fV (os:Os):World:={ World.holding Tryz.prog os ⟨#[],#[],[]⟩ with heap:=(((World.holding Tryz.prog os ⟨#[],#[],[]⟩).heap.modify 2 (rL Zr9)).modify 1 (rL firstCells)) }
theorem Zwg (os:Os):laidMet Tryz.prog Rows.linksOwnRow.laid ((fV os).forCall (fun _ _=>0) ⟨#[],#[.string ⟨#[]⟩],[]⟩).memory:=
 laidMet_of_run' 8 (by kernel_rfl) (by kernel_rfl)
theorem reads (os:Os) {H:Type} (enc:TypeId×Value->H):∃ places,DataW.whole enc Tryz.prog ((fV os).forCall (fun _ _=>0) ⟨#[],#[.string ⟨#[]⟩],[]⟩).memory Tryz.f3.params.toList Rows.linksOwnSpec.vars false #[.string ⟨#[]⟩].toList 8 =
  some ([.lit (.string [])],[],places):=
 ⟨[],by kernel_rfl⟩
theorem Zyd {W:World} (h:W.ShapedOpen Tryz.prog):PA W:=
 Go.Proofs.cell_of_shapedOpen_int (zero:=#[.int .i64 0]) (t:=3) h (GK (by kernel_rfl)) (by kernel_rfl) rfl (by kernel_rfl) (by kernel_rfl) Tryz.underlying3
theorem contract (H:Type) (enc:TypeId×Value->H) (W:World) (base:Nat) (args:Array Value) (ds gs:Q3 (DataW H)) (before:Q3 MemPlace)
  (hval:∀ (j:Nat) t v,Tryz.f3.params[j]? = some t->args[j]? = some v->Value.okWide Tryz.prog W .any base t v)
  (hW:DataW.Whole enc Tryz.prog Tryz.f3.params.toList Rows.linksOwnSpec.vars false W args.toList ds gs before) (hsh:W.ShapedOpen Tryz.prog) :
  Calls Tryz.prog 3 args W fun e W'=>∃ v,e = .returned v/\Rows.linksOwnSpec.post enc Tryz.prog Tryz.f3 false true false false W args v W':=by{
have hW':=hW
obtain ⟨p,q,hA0,hV,rfl,hfz,hnd⟩:=hW
have hA:DataW.TrodAll enc Tryz.prog W 0 (fun _=>true) true Tryz.f3.params.toList args.toList ds p:=hA0
rw [Tryz.params3] at hA hval
obtain ⟨v0,vs0,d0,ds0,p0,q0,hargs,rfl,rfl,h0,r0⟩:=trodAll_cons hA
obtain ⟨rfl,rfl,rfl⟩:=trodAll_nil r0
obtain rfl:args = #[v0]:=by cases args;simp_all
obtain ⟨rfl,rfl⟩:=trodVars_none hV
have k0:=h0
have lt0:∀ x ∈ p0,x.block<W.heap.size:=by obtain ⟨m,hm⟩:=k0;exact DataW.trod_lt m _ _ _ hm
obtain ⟨t0,rfl,rfl,rfl,w0⟩:=open_string Tryz.underlying9 (hval 0 9 v0 rfl rfl) h0
clear hA0
refine (Zov t0 W (Zzq (Zyd hsh))).mono fun e W' ⟨he,bel⟩=>?_
subst he
exact ⟨_,rfl,_,_,_,[],_,[],hW',trodAll_mk1 (shut_bool Tryz.underlying4 _),
 (trodAll_cons_mk (Below.trod Zyc (by kernel_rfl) (GK (by kernel_rfl)) k0 bel lt0) trodAll_mk0),rfl,bel.frame _,nofun⟩}
theorem lifted (os:Os) (started:os.Started) (H:Type) (enc:TypeId×Value->H) (F:Stop.Interp) :
  ReturnsInHanded {} Tryz.checked os 3 .any ((OpenSpec.ofChange Rows.linksOwnSpec).preRow enc Tryz.prog Tryz.f3 Rows.linksOwnRow.domain false Rows.linksOwnRow.laid) (((OpenSpec.ofChange Rows.linksOwnSpec).at F).post enc Tryz.prog Tryz.f3 false true false false):=by{
obtain ⟨places,hx⟩:=reads os enc
refine returnsInHanded_of_row (C:=Tryz.checked) (s:=(OpenSpec.ofChange Rows.linksOwnSpec)) own started (by kernel_rfl) Tryz.func3
 (witness_row_at (enc:=enc) (C:=Tryz.checked) false (fV os) #[.string ⟨#[]⟩] rfl (by kernel_rfl) (by kernel_rfl) (by kernel_rfl)
  (OpenSpec.preRow_of_cond 8 hx (by kernel_rfl) (fun k hk=>by cases hk) (by kernel_rfl) (Zwg os))) ?_
intro W base args ds gs before hval hW _ _ _ _ hsh _
exact contract H enc W base args ds gs before hval hW hsh}
theorem Zwh:(Rows.linksOwnRow.inPlace == Tryz.pinned.checked.prog.inPlace 3)=true:=by kernel_rfl
theorem Zwi:(Rows.linksOwnRow.unfollowed == Tryz.pinned.checked.prog.unfollowed 3)=true:=by kernel_rfl
theorem Zwj:(Rows.linksOwnRow.recurses == Tryz.pinned.checked.prog.recurses 3)=true:=by kernel_rfl
theorem Zwk:(Rows.linksOwnRow.named == Tryz.pinned.checked.prog.varsNamed 3)=true:=by kernel_rfl
theorem closed:joinedFacts Tryz.pinned.checked.prog 3 Tryz.f3 (OpenSpec.ofChange Rows.linksOwnSpec).bare Rows.linksOwnRow=true:=by
 unfold joinedFacts
 rw [Zwh,Zwi,Zwj,Zwk]
 kernel_rfl
theorem said:Rows.LinksOwnSaid:=
 OpenClaim.holds_of_cond 3 Tryz.f3 rfl rfl rfl rfl rfl rfl rfl ⟨rfl,rfl,rfl,rfl,rfl⟩ rfl rfl rfl rfl rfl (by kernel_rfl) Tryz.func3 closed
  (GK (by kernel_rfl)) (by unfold Func.isWrapper;first | (rw [if_pos (by decide +kernel)];kernel_rfl) | (rw [if_neg (by decide +kernel)];exact ⟨rfl,rfl⟩))
  (fun os started H enc _ F=>by rw [OpenClaim.pre_eq_preRow];exact lifted os started H enc F)
theorem ZpY (f:FuncId) (fn:Func) (hf:Tryz.pinned.checked.prog.funcNamed "transclude/trclaw14.LinksOwn" = some f) (hfn:Tryz.pinned.checked.prog.funcs[f]? = some fn) :
  false=Tryz.pinned.checked.prog.looks []/\∀ (j:Nat) t,fn.params[j]? = some t->Tryz.pinned.checked.prog.wantsStandIn t=false:=by{
obtain rfl:f=3:=DB ((show Tryz.prog.funcNamed "transclude/trclaw14.LinksOwn" = some 3 by kernel_rfl).symm.trans hf) |>.symm
obtain rfl:fn=Tryz.f3:=(DB (Tryz.func3.symm.trans hfn)).symm
refine ⟨by kernel_rfl,fun j t ht=>?_⟩
rw [Tryz.params3] at ht
have hm:t ∈ [9]:=by simpa using Array.mem_of_getElem? ht
have hall:([9].all fun u=>!Tryz.prog.wantsStandIn u)=true:=by kernel_rfl
exact (show Tryz.prog.wantsStandIn t=false by simpa using Yq.1 hall t hm)}
theorem card:Rows.LinksOwnCardSaid:=
 Claim7.holds_tied_plain_at .later [] _ _ _ _ said (fun _ h=>by cases h) (by kernel_rfl) (fun _ h=>by cases h) linksOwn_row_tie rfl ⟨rfl,rfl⟩ (by kernel_rfl) rfl ZpY (by kernel_rfl)
#print axioms card
end Go.Proofs.YtmgfammllddkhaaGreatDoor.lawLinksOwn
