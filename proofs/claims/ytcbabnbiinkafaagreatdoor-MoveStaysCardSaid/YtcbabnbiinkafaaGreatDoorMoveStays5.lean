/- Part 5 of the proof of: MoveStays returns true for every input and never panics: the stays and the longest outage of a log are as the reference says, stays follow one another, and no outage takes longer than the limit; conditions: those of the given statement, that the package variables it lists hold what their initialisers lay. -/
import Derived.Test.YtcbabnbiinkafaaGreatDoorMoveStays4
set_option linter.all false
section
open Go Go.Am
open Go.Am.Dat (cells)
namespace Go.Proofs.YtcbabnbiinkafaaGreatDoor
open Go.ChangeShapes Go.WideShapes Go.ChangeAt Go.RowKit
open Go.ChangeMaps (open_string shut_string)
set_option maxRecDepth 100000
theorem Bh : Tryz.prog.funcNamed Rows.moveStaysRow.func=some 9:=by kernel_rfl
theorem inst9 : Tryz.f9.isInstance Tryz.prog Rows.moveStaysRow.origin Rows.moveStaysRow.targs:=of_decide_eq_true (by kernel_rfl)
theorem wrap9 : Tryz.f9.isWrapper Tryz.prog Rows.moveStaysRow.wrapper Rows.moveStaysRow.mainSum:=by unfold Func.isWrapper;first | (rw[if_pos (by decide +kernel)];kernel_rfl) | (rw[if_neg (by decide +kernel)];exact⟨rfl,rfl⟩)
theorem over9 : Rows.moveStaysRow.holds Tryz.pinned (OpenSpec.ofChange Rows.moveStaysSpec):=
 OpenClaim.holds_of_wide 9 Tryz.f9 rfl rfl rfl rfl rfl rfl rfl ⟨rfl,rfl,rfl,rfl,rfl⟩ rfl rfl rfl rfl rfl Bh Tryz.func9 joined9
  inst9 wrap9
  (fun os started H en _=>lifted9 os started H en)
theorem byText9 : Rows.moveStaysRow.wfByText (OpenSpec.ofChange Rows.moveStaysSpec)=true:=by kernel_rfl
end Go.Proofs.YtcbabnbiinkafaaGreatDoor
end
