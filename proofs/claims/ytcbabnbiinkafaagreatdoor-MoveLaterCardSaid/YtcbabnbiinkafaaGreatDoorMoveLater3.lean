/- Part 3 of the proof of: MoveLater returns true for every input and never panics: a rule that is harder to meet never triggers earlier; conditions: those of the given statement, that the package variables it lists hold what their initialisers lay. -/
import Derived.Test.YtcbabnbiinkafaaGreatDoorMoveLater2
set_option linter.all false
section
open Go Go.Am
open Go.Am.Dat (cells)
namespace Go.Proofs.YtcbabnbiinkafaaGreatDoor
open Go.ChangeShapes Go.WideShapes Go.ChangeAt Go.RowKit
open Go.ChangeMaps (open_string shut_string)
set_option maxRecDepth 100000
theorem xg : Tryz.prog.funcNamed Rows.moveLaterRow.func = some 4 := by kernel_rfl
theorem inst4 : Tryz.f4.isInstance Tryz.prog Rows.moveLaterRow.origin Rows.moveLaterRow.targs := of_decide_eq_true (by kernel_rfl)
theorem wrap4 : Tryz.f4.isWrapper Tryz.prog Rows.moveLaterRow.wrapper Rows.moveLaterRow.mainSum := by unfold Func.isWrapper; first | (rw [if_pos (by decide +kernel)]; kernel_rfl) | (rw [if_neg (by decide +kernel)]; exact ⟨rfl, rfl⟩)
theorem over4 : Rows.moveLaterRow.holds Tryz.pinned (OpenSpec.ofChange Rows.moveLaterSpec) :=
 OpenClaim.holds_of_wide 4 Tryz.f4 rfl rfl rfl rfl rfl rfl rfl ⟨rfl, rfl, rfl, rfl, rfl⟩ rfl rfl rfl rfl rfl xg Tryz.func4 joined4
  inst4 wrap4
  (fun os started H en _ => lifted4 os started H en)
theorem byText4 : Rows.moveLaterRow.wfByText (OpenSpec.ofChange Rows.moveLaterSpec) = true := by kernel_rfl
end Go.Proofs.YtcbabnbiinkafaaGreatDoor
end
