/- Part 6 of the proof of: TopMoveOnceInOrder returns true for every input and never panics: behind any log the phone can get all packets that wait, once and in order; conditions: those of the given statement, that the package variables it lists hold what their initialisers lay. -/
import Derived.Test.YtcbabnbiinkafaaGreatDoorTopMoveOnceInOrder5
set_option linter.all false
section
open Go Go.Am
open Go.Am.Dat (cells)
namespace Go.Proofs.YtcbabnbiinkafaaGreatDoor
open Go.ChangeShapes Go.WideShapes Go.ChangeAt Go.RowKit
open Go.ChangeMaps (open_string shut_string)
set_option maxRecDepth 100000
theorem Ag : Tryz.prog.funcNamed Rows.topMoveOnceInOrderRow.func=some 18:=by kernel_rfl
theorem inst18 : Tryz.f18.isInstance Tryz.prog Rows.topMoveOnceInOrderRow.origin Rows.topMoveOnceInOrderRow.targs:=of_decide_eq_true (by kernel_rfl)
theorem wrap18 : Tryz.f18.isWrapper Tryz.prog Rows.topMoveOnceInOrderRow.wrapper Rows.topMoveOnceInOrderRow.mainSum:=by unfold Func.isWrapper;first | (rw[if_pos (by decide +kernel)];kernel_rfl) | (rw[if_neg (by decide +kernel)];exact⟨rfl,rfl⟩)
theorem over18 : Rows.topMoveOnceInOrderRow.holds Tryz.pinned (OpenSpec.ofChange Rows.topMoveOnceInOrderSpec):=
 OpenClaim.holds_of_wide 18 Tryz.f18 rfl rfl rfl rfl rfl rfl rfl ⟨rfl,rfl,rfl,rfl,rfl⟩ rfl rfl rfl rfl rfl Ag Tryz.func18 Bf
  inst18 wrap18
  (fun os started H en _=>Bg os started H en)
theorem AZ : Rows.topMoveOnceInOrderRow.wfByText (OpenSpec.ofChange Rows.topMoveOnceInOrderSpec)=true:=by kernel_rfl
end Go.Proofs.YtcbabnbiinkafaaGreatDoor
end
