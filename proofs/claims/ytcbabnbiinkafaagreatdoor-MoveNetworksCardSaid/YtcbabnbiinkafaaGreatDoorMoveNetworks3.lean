/- Part 3 of the proof of: MoveNetworks returns true for every input and never panics: the answer to a cell of a network, the network's own checks and the state's beginning, are as the reference says; conditions: those of the given statement, that the package variables it lists hold what their initialisers lay. -/
import Derived.Test.YtcbabnbiinkafaaGreatDoorMoveNetworks2
set_option linter.all false
section
open Go Go.Am
open Go.Am.Dat (cells)
namespace Go.Proofs.YtcbabnbiinkafaaGreatDoor
open Go.ChangeShapes Go.WideShapes Go.ChangeAt Go.RowKit
open Go.ChangeMaps (open_string shut_string)
set_option maxRecDepth 100000
theorem wX : Tryz.prog.funcNamed Rows.moveNetworksRow.func = some 7 := by kernel_rfl
theorem inst7 : Tryz.f7.isInstance Tryz.prog Rows.moveNetworksRow.origin Rows.moveNetworksRow.targs := of_decide_eq_true (by kernel_rfl)
theorem wrap7 : Tryz.f7.isWrapper Tryz.prog Rows.moveNetworksRow.wrapper Rows.moveNetworksRow.mainSum := by unfold Func.isWrapper; first | (rw [if_pos (by decide +kernel)]; kernel_rfl) | (rw [if_neg (by decide +kernel)]; exact ⟨rfl, rfl⟩)
theorem over7 : Rows.moveNetworksRow.holds Tryz.pinned (OpenSpec.ofChange Rows.moveNetworksSpec) :=
 OpenClaim.holds_of_wide 7 Tryz.f7 rfl rfl rfl rfl rfl rfl rfl ⟨rfl, rfl, rfl, rfl, rfl⟩ rfl rfl rfl rfl rfl wX Tryz.func7 joined7
  inst7 wrap7
  (fun os started H en _ => lifted7 os started H en)
theorem byText7 : Rows.moveNetworksRow.wfByText (OpenSpec.ofChange Rows.moveNetworksSpec) = true := by kernel_rfl
end Go.Proofs.YtcbabnbiinkafaaGreatDoor
end
