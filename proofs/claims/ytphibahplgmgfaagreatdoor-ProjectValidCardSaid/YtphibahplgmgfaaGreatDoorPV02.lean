/- ProjectValid: the row and its card. Whatever the list and the text: the law returns true. No condition of ours. -/
import Derived.Test.YtphibahplgmgfaaGreatDoorCards
import Derived.Test.YtphibahplgmgfaaGreatDoorTie
import Derived.Test.YtphibahplgmgfaaGreatDoorPV01
import Derived.Deep.DeepHandedRow
import Derived.Lib.LaidTab
import Derived.ShutString
namespace Go.Proofs.YtphibahplgmgfaaGreatDoor.lawValid
open Go.ChangeShapes Go.WideShapes Go.ChangeAt Go.RowKit
open Go.ChangeMaps (open_string shut_string)
set_option linter.unusedVariables false
theorem own:ownKnob Tryz.prog.godebug=none:=by kernel_rfl
theorem laidOut:laidOutB Tryz.prog=true:=by kernel_rfl
def firstCells:Array Value:=List.toArray (Go.Pinned.utf8FirstZ.map fun (n:Nat)=>Value.int .u8 (n:Int))
def rangeCells:Array Value:=#[.int .u8 128,.int .u8 191,.int .u8 160,.int .u8 191,.int .u8 128,.int .u8 159,.int .u8 144,.int .u8 191,.int .u8 128,.int .u8 143,.int .u8 0,.int .u8 0,.int .u8 0,.int .u8 0,.int .u8 0,.int .u8 0,.int .u8 0,.int .u8 0,.int .u8 0,.int .u8 0,.int .u8 0,.int .u8 0,.int .u8 0,.int .u8 0,.int .u8 0,.int .u8 0,.int .u8 0,.int .u8 0,.int .u8 0,.int .u8 0,.int .u8 0,.int .u8 0]
def holdCells (cs:Array Value):Obj→Obj
 | .cells _ t frozen=>.cells cs t frozen
 | o=>o
noncomputable def laidWorld (os:Os):World:=
 { World.holding Tryz.prog os ⟨#[],#[],[]⟩ with heap:=(((World.holding Tryz.prog os ⟨#[],#[],[]⟩).heap.modify 3 (holdCells rangeCells)).modify 2 (holdCells firstCells)).modify 0 (holdCells #[.int .i64 5,.string ⟨#[80,111,108,105,99,121]⟩]) }
theorem laid_met (os:Os):laidMet Tryz.prog Rows.projectValidRow.laid ((laidWorld os).forCall (fun _ _=>0) ⟨#[],#[.slice none 0 0,.string ⟨#[]⟩],[]⟩).memory:=
 laidMet_of_run' 8 (by kernel_rfl) (by kernel_rfl)
theorem reads (os:Os) {H:Type} (enc:TypeId×Value→H):∃ places,DataW.whole enc Tryz.prog ((laidWorld os).forCall (fun _ _=>0) ⟨#[],#[.slice none 0 0,.string ⟨#[]⟩],[]⟩).memory Tryz.f5.params.toList Rows.projectValidSpec.vars false #[.slice none 0 0,.string ⟨#[]⟩].toList 8 =
  some ([.nil,.lit (.string [])],[],places):=
 ⟨[],by kernel_rfl⟩
theorem glob_of {W:World} (h:W.ShapedOpen Tryz.prog):Glob W:=
 Go.Proofs.cell_of_shapedOpen_int (zero:=#[.int .i64 0]) (t:=3) h (of_decide_eq_true (by kernel_rfl)) (by kernel_rfl) rfl (by kernel_rfl) (by kernel_rfl) Tryz.underlying3
set_option maxRecDepth 100000 in
theorem contract (H:Type) (enc:TypeId×Value→H) (W:World) (base:Nat) (args:Array Value) (ds gs:List (DataW H)) (before:List MemPlace)
  (hval:∀ (j:Nat) t v,Tryz.f5.params[j]? = some t→args[j]? = some v→Value.okWide Tryz.prog W .any base t v)
  (hW:DataW.Whole enc Tryz.prog Tryz.f5.params.toList Rows.projectValidSpec.vars false W args.toList ds gs before) (hsh:W.ShapedOpen Tryz.prog) (hlaid:laidMetH Tryz.prog Rows.projectValidRow.laid W) :
  Calls Tryz.prog 5 args W fun e W'=>∃ v,e = .returned v∧Rows.projectValidSpec.post enc Tryz.prog Tryz.f5 false true false false W args v W':=by
 have hW':=hW
 obtain ⟨p,q,hA0,hV,rfl,hfz,hnd⟩:=hW
 have hA:DataW.TrodAll enc Tryz.prog W 0 (fun _=>true) true Tryz.f5.params.toList args.toList ds p:=hA0
 rw [Tryz.params5] at hA hval
 obtain ⟨v0,vs0,d0,ds0,p0,q0,hargs,rfl,rfl,h0,r0⟩:=trodAll_cons hA
 obtain ⟨v1,vs1,d1,ds1,p1,q1,rfl,rfl,rfl,h1,r1⟩:=trodAll_cons r0
 obtain ⟨rfl,rfl,rfl⟩:=trodAll_nil r1
 obtain rfl:args = #[v0,v1]:=by cases args;simp_all
 obtain ⟨rfl,rfl⟩:=trodVars_none hV
 have k0:=h0
 have lt0:∀ x ∈ p0,x.block<W.heap.size:=by obtain ⟨m,hm⟩:=k0;exact DataW.trod_lt m _ _ _ hm
 have k1:=h1
 have lt1:∀ x ∈ p1,x.block<W.heap.size:=by obtain ⟨m,hm⟩:=k1;exact DataW.trod_lt m _ _ _ hm
 obtain ⟨fuel0,hf0⟩:=h0
 obtain ⟨a0,len0,cap0,rfl⟩:=okWide_slice Tryz.underlying30 (hval 0 30 v0 rfl rfl)
 obtain ⟨t0,A0,n0,c0,hc0,hs0⟩:=rdInts _ _ _ hf0
 cases hc0
 obtain ⟨t1,rfl,rfl,rfl,w1⟩:=open_string Tryz.underlying9 (hval 1 9 v1 rfl rfl) h1
 clear hA0
 refine (projectValid_any t1 W hs0 (inv_of (glob_of hsh) (rules_of hlaid))).mono fun e W' ⟨he,bel⟩=>?_
 subst he
 exact ⟨_,rfl,_,_,_,[],_,[],hW',trodAll_mk1 (shut_bool Tryz.underlying4 _),
  (trodAll_cons_mk (Below.trod laidOut (by kernel_rfl) (of_decide_eq_true (by kernel_rfl)) k0 bel lt0) (trodAll_cons_mk (Below.trod laidOut (by kernel_rfl) (of_decide_eq_true (by kernel_rfl)) k1 bel lt1) trodAll_mk0)),rfl,bel.frame _,fun h=>by cases h⟩
set_option maxRecDepth 100000 in
theorem lifted (os:Os) (started:os.Started) (H:Type) (enc:TypeId×Value→H) (F:Stop.Interp) :
  ReturnsInHanded {} Tryz.checked os 5 .any ((OpenSpec.ofChange Rows.projectValidSpec).preRow enc Tryz.prog Tryz.f5 Rows.projectValidRow.domain false Rows.projectValidRow.laid) (((OpenSpec.ofChange Rows.projectValidSpec).at F).post enc Tryz.prog Tryz.f5 false true false false):=by
 obtain ⟨places,hx⟩:=reads os enc
 refine returnsInHanded_of_row (C:=Tryz.checked) (s:=(OpenSpec.ofChange Rows.projectValidSpec)) own started (by kernel_rfl) Tryz.func5
  (witness_row_at (enc:=enc) (C:=Tryz.checked) false (laidWorld os) #[.slice none 0 0,.string ⟨#[]⟩] rfl (by kernel_rfl) (by kernel_rfl) (by kernel_rfl)
   (OpenSpec.preRow_of_cond 8 hx (by kernel_rfl) (fun k hk=>by cases hk) (by kernel_rfl) (laid_met os))) ?_
 intro W base args ds gs before hval hW _ _ _ hlaid hsh _
 exact contract H enc W base args ds gs before hval hW hsh hlaid
theorem closed10:(Rows.projectValidRow.inPlace == Tryz.pinned.checked.prog.inPlace 5)=true:=by kernel_rfl
theorem closed11:(Rows.projectValidRow.unfollowed == Tryz.pinned.checked.prog.unfollowed 5)=true:=by kernel_rfl
theorem closed12:(Rows.projectValidRow.recurses == Tryz.pinned.checked.prog.recurses 5)=true:=by kernel_rfl
theorem closed13:(Rows.projectValidRow.named == Tryz.pinned.checked.prog.varsNamed 5)=true:=by kernel_rfl
theorem closed:joinedFacts Tryz.pinned.checked.prog 5 Tryz.f5 (OpenSpec.ofChange Rows.projectValidSpec).bare Rows.projectValidRow=true:=by
 unfold joinedFacts
 rw [closed10,closed11,closed12,closed13]
 kernel_rfl
theorem said:Rows.ProjectValidSaid:=
 OpenClaim.holds_of_cond 5 Tryz.f5 rfl rfl rfl rfl rfl rfl rfl ⟨rfl,rfl,rfl,rfl,rfl⟩ rfl rfl rfl rfl rfl (by kernel_rfl) Tryz.func5 closed
  (of_decide_eq_true (by kernel_rfl)) (by unfold Func.isWrapper;first | (rw [if_pos (by decide +kernel)];kernel_rfl) | (rw [if_neg (by decide +kernel)];exact ⟨rfl,rfl⟩))
  (fun os started H enc _ F=>by rw [OpenClaim.pre_eq_preRow];exact lifted os started H enc F)
theorem plainParams (f:FuncId) (fn:Func) (hf:Tryz.pinned.checked.prog.funcNamed "transclude/trclaw31.ProjectValid" = some f) (hfn:Tryz.pinned.checked.prog.funcs[f]? = some fn) :
  false=Tryz.pinned.checked.prog.looks []∧∀ (j:Nat) t,fn.params[j]? = some t→Tryz.pinned.checked.prog.wantsStandIn t=false:=by
 obtain rfl:f=5:=Option.some.inj ((show Tryz.prog.funcNamed "transclude/trclaw31.ProjectValid" = some 5 by kernel_rfl).symm.trans hf) |>.symm
 obtain rfl:fn=Tryz.f5:=(Option.some.inj (Tryz.func5.symm.trans hfn)).symm
 refine ⟨by kernel_rfl,fun j t ht=>?_⟩
 rw [Tryz.params5] at ht
 have hm:t ∈ [30,9]:=by simpa using Array.mem_of_getElem? ht
 have hall:([30,9].all fun u=>!Tryz.prog.wantsStandIn u)=true:=by kernel_rfl
 exact (show Tryz.prog.wantsStandIn t=false by simpa using List.all_eq_true.1 hall t hm)
theorem card:Rows.ProjectValidCardSaid:=
 Claim7.holds_tied_plain_at .later [] _ _ _ _ said (fun _ h=>by cases h) (by kernel_rfl) (fun _ h=>by cases h) projectValid_row_tie rfl ⟨rfl,rfl⟩ (by kernel_rfl) rfl plainParams (by kernel_rfl)
#print axioms card
end Go.Proofs.YtphibahplgmgfaaGreatDoor.lawValid
