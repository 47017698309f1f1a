/- ViewMembers: the row and its card. Whatever the lists and numbers: the law returns true. No condition of ours. -/
import Derived.Test.YtpffimahajgiaaaGreatDoorCards
import Derived.Test.YtpffimahajgiaaaGreatDoorTie
import Derived.Test.YtpffimahajgiaaaGreatDoorVM13
import Derived.Deep.DeepHandedRow
import Derived.Lib.LaidTab
import Derived.ShutString
set_option linter.unusedVariables false
namespace Go.Proofs.YtpffimahajgiaaaGreatDoor.lawViewMembers
open Go.ChangeShapes Go.WideShapes Go.ChangeAt Go.RowKit
open Go.ChangeMaps (open_string shut_string)
theorem own:ownKnob Tryz.prog.godebug=none:=by kernel_rfl
theorem Zu1:laidOutB Tryz.prog=true:=by kernel_rfl
def firstCells:Array Value:=List.toArray (Go.Pinned.utf8FirstZ.map fun (n:Nat)=>Value.int .u8 (n:Int))
def Zph:Array Value:=#[.int .u8 128,.int .u8 191,.int .u8 160,.int .u8 191,.int .u8 128,.int .u8 159,.int .u8 144,.int .u8 191,.int .u8 128,.int .u8 143,.int .u8 0,.int .u8 0,.int .u8 0,.int .u8 0,.int .u8 0,.int .u8 0,.int .u8 0,.int .u8 0,.int .u8 0,.int .u8 0,.int .u8 0,.int .u8 0,.int .u8 0,.int .u8 0,.int .u8 0,.int .u8 0,.int .u8 0,.int .u8 0,.int .u8 0,.int .u8 0,.int .u8 0,.int .u8 0]
def ZmJ (cs:Array Value):Obj->Obj | .cells _ t frozen=>.cells cs t frozen | o=>o
noncomputable def ZjC (os:Os):World:={ World.holding Tryz.prog os ⟨#[],#[],[]⟩ with heap:=(((World.holding Tryz.prog os ⟨#[],#[],[]⟩).heap.modify 2 (ZmJ Zph)).modify 1 (ZmJ firstCells)) }
theorem Zs2 (os:Os):laidMet Tryz.prog Rows.viewMembersRow.laid ((ZjC os).forCall (fun _ _=>0) ⟨#[],#[.slice none 0 0],[]⟩).memory:=
 laidMet_of_run' 8 (by kernel_rfl) (by kernel_rfl)
theorem reads (os:Os) {H:Type} (enc:TypeId×Value->H):∃ places,DataW.whole enc Tryz.prog ((ZjC os).forCall (fun _ _=>0) ⟨#[],#[.slice none 0 0],[]⟩).memory Tryz.f4.params.toList Rows.viewMembersSpec.vars false #[.slice none 0 0].toList 8 =
  some ([.nil],[],places):=
 ⟨[],by kernel_rfl⟩
theorem Zu2 {W:World} (h:W.ShapedOpen Tryz.prog):ZvA W:=
 Go.Proofs.cell_of_shapedOpen_int (zero:=#[.int .i64 0]) (t:=3) h (of_decide_eq_true (by kernel_rfl)) (by kernel_rfl) rfl (by kernel_rfl) (by kernel_rfl) Tryz.underlying3
set_option maxRecDepth 100000 in
theorem contract (H:Type) (enc:TypeId×Value->H) (W:World) (base:Nat) (args:Array Value) (ds gs:List (DataW H)) (before:List MemPlace)
  (hval:∀ (j:Nat) t v,Tryz.f4.params[j]? = some t->args[j]? = some v->Value.okWide Tryz.prog W .any base t v)
  (hW:DataW.Whole enc Tryz.prog Tryz.f4.params.toList Rows.viewMembersSpec.vars false W args.toList ds gs before) (hsh:W.ShapedOpen Tryz.prog) :
  Calls Tryz.prog 4 args W fun e W'=>∃ v,e = .returned v/\Rows.viewMembersSpec.post enc Tryz.prog Tryz.f4 false true false false W args v W':=by{
have hW':=hW
obtain ⟨p,q,hA0,hV,rfl,hfz,hnd⟩:=hW
have hA:DataW.TrodAll enc Tryz.prog W 0 (fun _=>true) true Tryz.f4.params.toList args.toList ds p:=hA0
rw [Tryz.params4] at hA hval
obtain ⟨v0,vs0,d0,ds0,p0,q0,hargs,rfl,rfl,h0,r0⟩:=trodAll_cons hA
obtain ⟨rfl,rfl,rfl⟩:=trodAll_nil r0
obtain rfl:args = #[v0]:=by cases args;simp_all
obtain ⟨rfl,rfl⟩:=trodVars_none hV
have k0:=h0
have lt0:∀ x ∈ p0,x.block<W.heap.size:=by obtain ⟨m,hm⟩:=k0;exact DataW.trod_lt m _ _ _ hm
obtain ⟨fuel0,hf0⟩:=h0
obtain ⟨a0,len0,cap0,rfl⟩:=okWide_slice Tryz.underlying32 (hval 0 32 v0 rfl rfl)
obtain ⟨t0,A0,n0,c0,hc0,hs0⟩:=Zwb _ _ _ hf0
cases hc0
clear hA0
refine (ZjO W hs0 (Zwc (Zu2 hsh))).mono fun e W' ⟨he,bel⟩=>?_
subst he
exact ⟨_,rfl,_,_,_,[],_,[],hW',trodAll_mk1 (shut_bool Tryz.underlying4 _),
 (trodAll_cons_mk (Below.trod Zu1 (by kernel_rfl) (of_decide_eq_true (by kernel_rfl)) k0 bel lt0) trodAll_mk0),rfl,bel.frame _,fun h=>by cases h⟩}
set_option maxRecDepth 100000 in
theorem lifted (os:Os) (started:os.Started) (H:Type) (enc:TypeId×Value->H) (F:Stop.Interp) :
  ReturnsInHanded {} Tryz.checked os 4 .any ((OpenSpec.ofChange Rows.viewMembersSpec).preRow enc Tryz.prog Tryz.f4 Rows.viewMembersRow.domain false Rows.viewMembersRow.laid) (((OpenSpec.ofChange Rows.viewMembersSpec).at F).post enc Tryz.prog Tryz.f4 false true false false):=by{
obtain ⟨places,hx⟩:=reads os enc
refine returnsInHanded_of_row (C:=Tryz.checked) (s:=(OpenSpec.ofChange Rows.viewMembersSpec)) own started (by kernel_rfl) Tryz.func4
 (witness_row_at (enc:=enc) (C:=Tryz.checked) false (ZjC os) #[.slice none 0 0] rfl (by kernel_rfl) (by kernel_rfl) (by kernel_rfl)
  (OpenSpec.preRow_of_cond 8 hx (by kernel_rfl) (fun k hk=>by cases hk) (by kernel_rfl) (Zs2 os))) ?_
intro W base args ds gs before hval hW _ _ _ _ hsh _
exact contract H enc W base args ds gs before hval hW hsh}
theorem Zs3:(Rows.viewMembersRow.inPlace == Tryz.pinned.checked.prog.inPlace 4)=true:=by kernel_rfl
theorem Zs4:(Rows.viewMembersRow.unfollowed == Tryz.pinned.checked.prog.unfollowed 4)=true:=by kernel_rfl
theorem Zs5:(Rows.viewMembersRow.recurses == Tryz.pinned.checked.prog.recurses 4)=true:=by kernel_rfl
theorem Zs6:(Rows.viewMembersRow.named == Tryz.pinned.checked.prog.varsNamed 4)=true:=by kernel_rfl
theorem closed:joinedFacts Tryz.pinned.checked.prog 4 Tryz.f4 (OpenSpec.ofChange Rows.viewMembersSpec).bare Rows.viewMembersRow=true:=by
 unfold joinedFacts
 rw [Zs3,Zs4,Zs5,Zs6]
 kernel_rfl
theorem said:Rows.ViewMembersSaid:=
 OpenClaim.holds_of_cond 4 Tryz.f4 rfl rfl rfl rfl rfl rfl rfl ⟨rfl,rfl,rfl,rfl,rfl⟩ rfl rfl rfl rfl rfl (by kernel_rfl) Tryz.func4 closed
  (of_decide_eq_true (by kernel_rfl)) (by unfold Func.isWrapper;first | (rw [if_pos (by decide +kernel)];kernel_rfl) | (rw [if_neg (by decide +kernel)];exact ⟨rfl,rfl⟩))
  (fun os started H enc _ F=>by rw [OpenClaim.pre_eq_preRow];exact lifted os started H enc F)
end Go.Proofs.YtpffimahajgiaaaGreatDoor.lawViewMembers
