/- Part 3 of the proof of: MovePingPongs returns true for every input and never panics: the ping-pongs among stays are as the reference says; conditions: those of the given statement, that the package variables it lists hold what their initialisers lay. -/
import Derived.Test.YtcbabnbiinkafaaGreatDoorMovePingPongs2
set_option linter.all false
section
open Go Go.Am
open Go.Am.Dat (cells)
namespace Go.Proofs.YtcbabnbiinkafaaGreatDoor
open Go.ChangeShapes Go.WideShapes Go.ChangeAt Go.RowKit
open Go.ChangeMaps (open_string shut_string)
set_option maxRecDepth 100000
theorem wX : Tryz.prog.funcNamed Rows.movePingPongsRow.func = some 6 := by kernel_rfl
theorem inst6 : Tryz.f6.isInstance Tryz.prog Rows.movePingPongsRow.origin Rows.movePingPongsRow.targs := of_decide_eq_true (by kernel_rfl)
theorem wrap6 : Tryz.f6.isWrapper Tryz.prog Rows.movePingPongsRow.wrapper Rows.movePingPongsRow.mainSum := by unfold Func.isWrapper; first | (rw [if_pos (by decide +kernel)]; kernel_rfl) | (rw [if_neg (by decide +kernel)]; exact ⟨rfl, rfl⟩)
theorem over6 : Rows.movePingPongsRow.holds Tryz.pinned (OpenSpec.ofChange Rows.movePingPongsSpec) :=
 OpenClaim.holds_of_wide 6 Tryz.f6 rfl rfl rfl rfl rfl rfl rfl ⟨rfl, rfl, rfl, rfl, rfl⟩ rfl rfl rfl rfl rfl wX Tryz.func6 joined6
  inst6 wrap6
  (fun os started H en _ => lifted6 os started H en)
theorem byText6 : Rows.movePingPongsRow.wfByText (OpenSpec.ofChange Rows.movePingPongsSpec) = true := by kernel_rfl
end Go.Proofs.YtcbabnbiinkafaaGreatDoor
end
