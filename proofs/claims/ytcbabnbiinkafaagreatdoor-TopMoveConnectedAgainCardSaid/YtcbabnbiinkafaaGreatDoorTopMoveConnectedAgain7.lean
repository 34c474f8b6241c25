/- Part 7 of the proof of: TopMoveConnectedAgain returns true for every input and never panics: a phone that fails at any time is connected again within the limit, to its own cell or to the first one, its outage is as long, and what waited waits still; conditions: those of the given statement, that the package variables it lists hold what their initialisers lay. -/
import Derived.Test.YtcbabnbiinkafaaGreatDoorTopMoveConnectedAgain6
set_option linter.all false
section
open Go Go.Am
open Go.Am.Dat (cells)
namespace Go.Proofs.YtcbabnbiinkafaaGreatDoor
open Go.ChangeShapes Go.WideShapes Go.ChangeAt Go.RowKit
open Go.ChangeMaps (open_string shut_string)
set_option maxRecDepth 100000
theorem Bk : Tryz.prog.funcNamed Rows.topMoveConnectedAgainRow.func=some 19:=by kernel_rfl
theorem inst19 : Tryz.f19.isInstance Tryz.prog Rows.topMoveConnectedAgainRow.origin Rows.topMoveConnectedAgainRow.targs:=of_decide_eq_true (by kernel_rfl)
theorem wrap19 : Tryz.f19.isWrapper Tryz.prog Rows.topMoveConnectedAgainRow.wrapper Rows.topMoveConnectedAgainRow.mainSum:=by unfold Func.isWrapper;first | (rw[if_pos (by decide +kernel)];kernel_rfl) | (rw[if_neg (by decide +kernel)];exact⟨rfl,rfl⟩)
theorem over19 : Rows.topMoveConnectedAgainRow.holds Tryz.pinned (OpenSpec.ofChange Rows.topMoveConnectedAgainSpec):=
 OpenClaim.holds_of_wide 19 Tryz.f19 rfl rfl rfl rfl rfl rfl rfl ⟨rfl,rfl,rfl,rfl,rfl⟩ rfl rfl rfl rfl rfl Bk Tryz.func19 Co
  inst19 wrap19
  (fun os started H en _=>Cp os started H en)
theorem Cf : Rows.topMoveConnectedAgainRow.wfByText (OpenSpec.ofChange Rows.topMoveConnectedAgainSpec)=true:=by kernel_rfl
end Go.Proofs.YtcbabnbiinkafaaGreatDoor
end
