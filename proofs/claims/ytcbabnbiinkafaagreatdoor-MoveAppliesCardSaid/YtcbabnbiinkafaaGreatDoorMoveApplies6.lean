/- Part 6 of the proof of: MoveApplies returns true for every input and never panics: one event at a state gives the reference's state and error, and what is refused leaves nothing; conditions: those of the given statement, that the package variables it lists hold what their initialisers lay. -/
import Derived.Test.YtcbabnbiinkafaaGreatDoorMoveApplies5
set_option linter.all false
section
open Go Go.Am
open Go.Am.Dat (cells)
namespace Go.Proofs.YtcbabnbiinkafaaGreatDoor
open Go.ChangeShapes Go.WideShapes Go.ChangeAt Go.RowKit
open Go.ChangeMaps (open_string shut_string)
set_option maxRecDepth 100000
theorem By : Tryz.prog.funcNamed Rows.moveAppliesRow.func=some 12:=by kernel_rfl
theorem inst12 : Tryz.f12.isInstance Tryz.prog Rows.moveAppliesRow.origin Rows.moveAppliesRow.targs:=of_decide_eq_true (by kernel_rfl)
theorem wrap12 : Tryz.f12.isWrapper Tryz.prog Rows.moveAppliesRow.wrapper Rows.moveAppliesRow.mainSum:=by unfold Func.isWrapper;first | (rw[if_pos (by decide +kernel)];kernel_rfl) | (rw[if_neg (by decide +kernel)];exact⟨rfl,rfl⟩)
theorem over12 : Rows.moveAppliesRow.holds Tryz.pinned (OpenSpec.ofChange Rows.moveAppliesSpec):=
 OpenClaim.holds_of_wide 12 Tryz.f12 rfl rfl rfl rfl rfl rfl rfl ⟨rfl,rfl,rfl,rfl,rfl⟩ rfl rfl rfl rfl rfl By Tryz.func12 Cc
  inst12 wrap12
  (fun os started H en _=>Cd os started H en)
theorem B6 : Rows.moveAppliesRow.wfByText (OpenSpec.ofChange Rows.moveAppliesSpec)=true:=by kernel_rfl
end Go.Proofs.YtcbabnbiinkafaaGreatDoor
end
