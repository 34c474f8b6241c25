/- Part 5 of the proof of: MoveWaits returns true for every input and never panics: what waits in a state and when it is due are as the reference says, or the same error; conditions: those of the given statement, that the package variables it lists hold what their initialisers lay. -/
import Derived.Test.YtcbabnbiinkafaaGreatDoorMoveWaits4
set_option linter.all false
section
open Go Go.Am
open Go.Am.Dat (cells)
namespace Go.Proofs.YtcbabnbiinkafaaGreatDoor
open Go.ChangeShapes Go.WideShapes Go.ChangeAt Go.RowKit
open Go.ChangeMaps (open_string shut_string)
set_option maxRecDepth 100000
theorem AA : Tryz.prog.funcNamed Rows.moveWaitsRow.func=some 14:=by kernel_rfl
theorem inst14 : Tryz.f14.isInstance Tryz.prog Rows.moveWaitsRow.origin Rows.moveWaitsRow.targs:=of_decide_eq_true (by kernel_rfl)
theorem wrap14 : Tryz.f14.isWrapper Tryz.prog Rows.moveWaitsRow.wrapper Rows.moveWaitsRow.mainSum:=by unfold Func.isWrapper;first | (rw[if_pos (by decide +kernel)];kernel_rfl) | (rw[if_neg (by decide +kernel)];exact⟨rfl,rfl⟩)
theorem over14 : Rows.moveWaitsRow.holds Tryz.pinned (OpenSpec.ofChange Rows.moveWaitsSpec):=
 OpenClaim.holds_of_wide 14 Tryz.f14 rfl rfl rfl rfl rfl rfl rfl ⟨rfl,rfl,rfl,rfl,rfl⟩ rfl rfl rfl rfl rfl AA Tryz.func14 Bc
  inst14 wrap14
  (fun os started H en _=>Bd os started H en)
theorem AX : Rows.moveWaitsRow.wfByText (OpenSpec.ofChange Rows.moveWaitsSpec)=true:=by kernel_rfl
end Go.Proofs.YtcbabnbiinkafaaGreatDoor
end
