/- Part 5 of the proof of: MoveOnce returns true for every input and never panics: every packet of a log comes once and in its order, or still waits; conditions: those of the given statement, that the package variables it lists hold what their initialisers lay. -/
import Derived.Test.YtcbabnbiinkafaaGreatDoorMoveOnce4
set_option linter.all false
section
open Go Go.Am
open Go.Am.Dat (cells)
namespace Go.Proofs.YtcbabnbiinkafaaGreatDoor
open Go.ChangeShapes Go.WideShapes Go.ChangeAt Go.RowKit
open Go.ChangeMaps (open_string shut_string)
set_option maxRecDepth 100000
theorem Az : Tryz.prog.funcNamed Rows.moveOnceRow.func=some 13:=by kernel_rfl
theorem inst13 : Tryz.f13.isInstance Tryz.prog Rows.moveOnceRow.origin Rows.moveOnceRow.targs:=of_decide_eq_true (by kernel_rfl)
theorem wrap13 : Tryz.f13.isWrapper Tryz.prog Rows.moveOnceRow.wrapper Rows.moveOnceRow.mainSum:=by unfold Func.isWrapper;first | (rw[if_pos (by decide +kernel)];kernel_rfl) | (rw[if_neg (by decide +kernel)];exact⟨rfl,rfl⟩)
theorem over13 : Rows.moveOnceRow.holds Tryz.pinned (OpenSpec.ofChange Rows.moveOnceSpec):=
 OpenClaim.holds_of_wide 13 Tryz.f13 rfl rfl rfl rfl rfl rfl rfl ⟨rfl,rfl,rfl,rfl,rfl⟩ rfl rfl rfl rfl rfl Az Tryz.func13 Bp
  inst13 wrap13
  (fun os started H en _=>Bq os started H en)
theorem Bh : Rows.moveOnceRow.wfByText (OpenSpec.ofChange Rows.moveOnceSpec)=true:=by kernel_rfl
end Go.Proofs.YtcbabnbiinkafaaGreatDoor
end
