/- Part 4 of the proof of: MoveStrongest returns true for every input and never panics: the strongest neighbour at the first tick at which one triggers is as the reference says, or the error; conditions: those of the given statement, that the package variables it lists hold what their initialisers lay. -/
import Derived.Test.YtcbabnbiinkafaaGreatDoorMoveStrongest3
set_option linter.all false
section
open Go Go.Am
open Go.Am.Dat (cells)
namespace Go.Proofs.YtcbabnbiinkafaaGreatDoor
open Go.ChangeShapes Go.WideShapes Go.ChangeAt Go.RowKit
open Go.ChangeMaps (open_string shut_string)
set_option maxRecDepth 100000
theorem x5 : Tryz.prog.funcNamed Rows.moveStrongestRow.func=some 10:=by kernel_rfl
theorem inst10 : Tryz.f10.isInstance Tryz.prog Rows.moveStrongestRow.origin Rows.moveStrongestRow.targs:=of_decide_eq_true (by kernel_rfl)
theorem wrap10 : Tryz.f10.isWrapper Tryz.prog Rows.moveStrongestRow.wrapper Rows.moveStrongestRow.mainSum:=by unfold Func.isWrapper;first | (rw[if_pos (by decide +kernel)];kernel_rfl) | (rw[if_neg (by decide +kernel)];exact⟨rfl,rfl⟩)
theorem over10 : Rows.moveStrongestRow.holds Tryz.pinned (OpenSpec.ofChange Rows.moveStrongestSpec):=
 OpenClaim.holds_of_wide 10 Tryz.f10 rfl rfl rfl rfl rfl rfl rfl ⟨rfl,rfl,rfl,rfl,rfl⟩ rfl rfl rfl rfl rfl x5 Tryz.func10 yW
  inst10 wrap10
  (fun os started H en _=>yX os started H en)
theorem yT : Rows.moveStrongestRow.wfByText (OpenSpec.ofChange Rows.moveStrongestSpec)=true:=by kernel_rfl
end Go.Proofs.YtcbabnbiinkafaaGreatDoor
end
