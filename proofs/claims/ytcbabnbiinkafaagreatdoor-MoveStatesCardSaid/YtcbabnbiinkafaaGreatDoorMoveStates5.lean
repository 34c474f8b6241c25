/- Part 5 of the proof of: MoveStates returns true for every input and never panics: the error of a state and of an event is as the reference says, for networks that are right and for those that are not; conditions: those of the given statement, that the package variables it lists hold what their initialisers lay. -/
import Derived.Test.YtcbabnbiinkafaaGreatDoorMoveStates4
set_option linter.all false
section
open Go Go.Am
open Go.Am.Dat (cells)
namespace Go.Proofs.YtcbabnbiinkafaaGreatDoor
open Go.ChangeShapes Go.WideShapes Go.ChangeAt Go.RowKit
open Go.ChangeMaps (open_string shut_string)
set_option maxRecDepth 100000
theorem Ax : Tryz.prog.funcNamed Rows.moveStatesRow.func=some 11:=by kernel_rfl
theorem inst11 : Tryz.f11.isInstance Tryz.prog Rows.moveStatesRow.origin Rows.moveStatesRow.targs:=of_decide_eq_true (by kernel_rfl)
theorem wrap11 : Tryz.f11.isWrapper Tryz.prog Rows.moveStatesRow.wrapper Rows.moveStatesRow.mainSum:=by unfold Func.isWrapper;first | (rw[if_pos (by decide +kernel)];kernel_rfl) | (rw[if_neg (by decide +kernel)];exact⟨rfl,rfl⟩)
theorem over11 : Rows.moveStatesRow.holds Tryz.pinned (OpenSpec.ofChange Rows.moveStatesSpec):=
 OpenClaim.holds_of_wide 11 Tryz.f11 rfl rfl rfl rfl rfl rfl rfl ⟨rfl,rfl,rfl,rfl,rfl⟩ rfl rfl rfl rfl rfl Ax Tryz.func11 AW
  inst11 wrap11
  (fun os started H en _=>AX os started H en)
theorem AR : Rows.moveStatesRow.wfByText (OpenSpec.ofChange Rows.moveStatesSpec)=true:=by kernel_rfl
end Go.Proofs.YtcbabnbiinkafaaGreatDoor
end
