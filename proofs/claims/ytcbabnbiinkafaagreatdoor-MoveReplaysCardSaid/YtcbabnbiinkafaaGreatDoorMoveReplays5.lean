/- Part 5 of the proof of: MoveReplays returns true for every input and never panics: the state behind a log, or the number of a wrong event and the error, and the numbers that the phone takes, are as the reference says; conditions: those of the given statement, that the package variables it lists hold what their initialisers lay. -/
import Derived.Test.YtcbabnbiinkafaaGreatDoorMoveReplays4
set_option linter.all false
section
open Go Go.Am
open Go.Am.Dat (cells)
namespace Go.Proofs.YtcbabnbiinkafaaGreatDoor
open Go.ChangeShapes Go.WideShapes Go.ChangeAt Go.RowKit
open Go.ChangeMaps (open_string shut_string)
set_option maxRecDepth 100000
theorem yI : Tryz.prog.funcNamed Rows.moveReplaysRow.func=some 5:=by kernel_rfl
theorem inst5 : Tryz.f5.isInstance Tryz.prog Rows.moveReplaysRow.origin Rows.moveReplaysRow.targs:=of_decide_eq_true (by kernel_rfl)
theorem wrap5 : Tryz.f5.isWrapper Tryz.prog Rows.moveReplaysRow.wrapper Rows.moveReplaysRow.mainSum:=by unfold Func.isWrapper; first | (rw [if_pos (by decide +kernel)]; kernel_rfl) | (rw [if_neg (by decide +kernel)]; exact ⟨rfl,rfl⟩)
theorem over5 : Rows.moveReplaysRow.holds Tryz.pinned (OpenSpec.ofChange Rows.moveReplaysSpec):=
 OpenClaim.holds_of_wide 5 Tryz.f5 rfl rfl rfl rfl rfl rfl rfl ⟨rfl,rfl,rfl,rfl,rfl⟩ rfl rfl rfl rfl rfl yI Tryz.func5 joined5
  inst5 wrap5
  (fun os started H en _=>lifted5 os started H en)
theorem byText5 : Rows.moveReplaysRow.wfByText (OpenSpec.ofChange Rows.moveReplaysSpec)=true:=by kernel_rfl
end Go.Proofs.YtcbabnbiinkafaaGreatDoor
end
