/- Part 7 of the proof of: MovePossible returns true for every input and never panics: the events that are possible at a time are those of the reference, or the same error, and Apply accepts each of them; conditions: those of the given statement. -/
import Derived.Test.YtcbabnbiinkafaaGreatDoorMovePossible6
set_option linter.all false
section
open Go Go.Am
open Go.Am.Dat (cells)
namespace Go.Proofs.YtcbabnbiinkafaaGreatDoor
open Go.ChangeShapes Go.WideShapes Go.ChangeAt Go.RowKit
open Go.ChangeMaps (open_string shut_string)
set_option maxRecDepth 100000
theorem BQ : Tryz.prog.funcNamed Rows.movePossibleRow.func=some 16:=by kernel_rfl
theorem inst16 : Tryz.f16.isInstance Tryz.prog Rows.movePossibleRow.origin Rows.movePossibleRow.targs:=of_decide_eq_true (by kernel_rfl)
theorem wrap16 : Tryz.f16.isWrapper Tryz.prog Rows.movePossibleRow.wrapper Rows.movePossibleRow.mainSum:=by unfold Func.isWrapper;first | (rw[if_pos (by decide +kernel)];kernel_rfl) | (rw[if_neg (by decide +kernel)];exact⟨rfl,rfl⟩)
theorem over16 : Rows.movePossibleRow.holds Tryz.pinned (OpenSpec.ofChange Rows.movePossibleSpec):=
 OpenClaim.holds_of_wide 16 Tryz.f16 rfl rfl rfl rfl rfl rfl rfl ⟨rfl,rfl,rfl,rfl,rfl⟩ rfl rfl rfl rfl rfl BQ Tryz.func16 CA
  inst16 wrap16
  (fun os started H en _=>CB os started H en)
theorem Ct : Rows.movePossibleRow.wfByText (OpenSpec.ofChange Rows.movePossibleSpec)=true:=by kernel_rfl
end Go.Proofs.YtcbabnbiinkafaaGreatDoor
end
