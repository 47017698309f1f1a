/- Facts of the program for: FeedHidden: the row and its card. Whatever the lists and numbers: the law returns true. No .. -/
import Derived.Test.YtjoneoobolnnbaaGreatDoorTie
import Derived.Deep.DeepHandedRow
import Derived.Lib.LaidTab
import Derived.ShutString
set_option maxRecDepth 100000
set_option linter.unusedVariables false
namespace Go.Proofs.YtjoneoobolnnbaaGreatDoor.lawFeedHidden
open Go.ChangeShapes Go.WideShapes Go.ChangeAt Go.RowKit
open Go.ChangeMaps (open_string shut_string)
theorem own:ownKnob Tryz.prog.godebug=none:=by kernel_rfl
theorem ZbO:laidOutB Tryz.prog=true:=by kernel_rfl
def firstCells:Array Value:=List.toArray (Go.Pinned.utf8FirstZ.map fun (n:Nat)=>Value.int .u8 (n:Int))
def Zd9:Array Value:=#[.int .u8 128,.int .u8 191,.int .u8 160,.int .u8 191,.int .u8 128,.int .u8 159,.int .u8 144,.int .u8 191,.int .u8 128,.int .u8 143,.int .u8 0,.int .u8 0,.int .u8 0,.int .u8 0,.int .u8 0,.int .u8 0,.int .u8 0,.int .u8 0,.int .u8 0,.int .u8 0,.int .u8 0,.int .u8 0,.int .u8 0,.int .u8 0,.int .u8 0,.int .u8 0,.int .u8 0,.int .u8 0,.int .u8 0,.int .u8 0,.int .u8 0,.int .u8 0]
def Zbs (cs:Array Value):Obj→Obj
 | .cells _ t frozen=>.cells cs t frozen
 | o=>o
noncomputable def Zbt (os:Os):World:=
 { World.holding Tryz.prog os ⟨#[],#[],[]⟩ with heap:=(((World.holding Tryz.prog os ⟨#[],#[],[]⟩).heap.modify 3 (Zbs Zd9)).modify 2 (Zbs firstCells)).modify 0 (Zbs #[.int .i64 5,.string ⟨#[80,111,108,105,99,121]⟩]) }
theorem ZgF (os:Os):laidMet Tryz.prog Rows.feedHiddenRow.laid ((Zbt os).forCall (fun _ _=>0) ⟨#[],#[.slice none 0 0,.slice none 0 0,.int .i64 0,.int .i64 0,.int .i64 0],[]⟩).memory:=
 laidMet_of_run' 8 (by kernel_rfl) (by kernel_rfl)
theorem reads (os:Os) {H:Type} (enc:TypeId×Value→H):∃ places,DataW.whole enc Tryz.prog ((Zbt os).forCall (fun _ _=>0) ⟨#[],#[.slice none 0 0,.slice none 0 0,.int .i64 0,.int .i64 0,.int .i64 0],[]⟩).memory Tryz.f7.params.toList Rows.feedHiddenSpec.vars false #[.slice none 0 0,.slice none 0 0,.int .i64 0,.int .i64 0,.int .i64 0].toList 8 =
  some ([.nil,.nil,.lit (.int .i64 0),.lit (.int .i64 0),.lit (.int .i64 0)],[],places):=
 ⟨[],by kernel_rfl⟩
theorem ZgG:(Rows.feedHiddenRow.inPlace == Tryz.pinned.checked.prog.inPlace 7)=true:=by kernel_rfl
theorem ZgH:(Rows.feedHiddenRow.unfollowed == Tryz.pinned.checked.prog.unfollowed 7)=true:=by kernel_rfl
theorem ZgI:(Rows.feedHiddenRow.recurses == Tryz.pinned.checked.prog.recurses 7)=true:=by kernel_rfl
theorem ZgJ:(Rows.feedHiddenRow.named == Tryz.pinned.checked.prog.varsNamed 7)=true:=by kernel_rfl
theorem closed:joinedFacts Tryz.pinned.checked.prog 7 Tryz.f7 (OpenSpec.ofChange Rows.feedHiddenSpec).bare Rows.feedHiddenRow=true:=by
 unfold joinedFacts
 rw [ZgG,ZgH,ZgI,ZgJ]
 kernel_rfl
end Go.Proofs.YtjoneoobolnnbaaGreatDoor.lawFeedHidden
