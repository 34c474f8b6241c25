/- Part 3 of the proof of: MoveTriggers returns true for every input and never panics: what is measured triggers as the reference says; conditions: those of the given statement, that the package variables it lists hold what their initialisers lay. -/
import Derived.Test.YtcbabnbiinkafaaGreatDoorMoveTriggers2
set_option linter.all false
section
open Go Go.Am
open Go.Am.Dat (cells)
namespace Go.Proofs.YtcbabnbiinkafaaGreatDoor
open Go.ChangeShapes Go.WideShapes Go.ChangeAt Go.RowKit
open Go.ChangeMaps (open_string shut_string)
set_option maxRecDepth 100000
theorem xb : Tryz.prog.funcNamed Rows.moveTriggersRow.func = some 3 := by kernel_rfl
theorem inst3 : Tryz.f3.isInstance Tryz.prog Rows.moveTriggersRow.origin Rows.moveTriggersRow.targs := of_decide_eq_true (by kernel_rfl)
theorem wrap3 : Tryz.f3.isWrapper Tryz.prog Rows.moveTriggersRow.wrapper Rows.moveTriggersRow.mainSum := by unfold Func.isWrapper; first | (rw [if_pos (by decide +kernel)]; kernel_rfl) | (rw [if_neg (by decide +kernel)]; exact ⟨rfl, rfl⟩)
theorem over3 : Rows.moveTriggersRow.holds Tryz.pinned (OpenSpec.ofChange Rows.moveTriggersSpec) :=
 OpenClaim.holds_of_wide 3 Tryz.f3 rfl rfl rfl rfl rfl rfl rfl ⟨rfl, rfl, rfl, rfl, rfl⟩ rfl rfl rfl rfl rfl xb Tryz.func3 joined3
  inst3 wrap3
  (fun os started H en _ => lifted3 os started H en)
theorem byText3 : Rows.moveTriggersRow.wfByText (OpenSpec.ofChange Rows.moveTriggersSpec) = true := by kernel_rfl
end Go.Proofs.YtcbabnbiinkafaaGreatDoor
end
