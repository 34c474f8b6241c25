/- Part 5 of the proof of: MoveLess returns true for every input and never panics: an event that only tells the time, put into a right log, changes neither the state nor the stays nor the longest outage; conditions: those of the given statement, that the package variables it lists hold what their initialisers lay. -/
import Derived.Test.YtcbabnbiinkafaaGreatDoorMoveLess4
set_option linter.all false
section
open Go Go.Am
open Go.Am.Dat (cells)
namespace Go.Proofs.YtcbabnbiinkafaaGreatDoor
open Go.ChangeShapes Go.WideShapes Go.ChangeAt Go.RowKit
open Go.ChangeMaps (open_string shut_string)
set_option maxRecDepth 100000
theorem AT : Tryz.prog.funcNamed Rows.moveLessRow.func=some 8:=by kernel_rfl
theorem inst8 : Tryz.f8.isInstance Tryz.prog Rows.moveLessRow.origin Rows.moveLessRow.targs:=of_decide_eq_true (by kernel_rfl)
theorem wrap8 : Tryz.f8.isWrapper Tryz.prog Rows.moveLessRow.wrapper Rows.moveLessRow.mainSum:=by unfold Func.isWrapper;first | (rw[if_pos (by decide +kernel)];kernel_rfl) | (rw[if_neg (by decide +kernel)];exact⟨rfl,rfl⟩)
theorem over8 : Rows.moveLessRow.holds Tryz.pinned (OpenSpec.ofChange Rows.moveLessSpec):=
 OpenClaim.holds_of_wide 8 Tryz.f8 rfl rfl rfl rfl rfl rfl rfl ⟨rfl,rfl,rfl,rfl,rfl⟩ rfl rfl rfl rfl rfl AT Tryz.func8 joined8
  inst8 wrap8
  (fun os started H en _=>lifted8 os started H en)
theorem byText8 : Rows.moveLessRow.wfByText (OpenSpec.ofChange Rows.moveLessSpec)=true:=by kernel_rfl
end Go.Proofs.YtcbabnbiinkafaaGreatDoor
end
