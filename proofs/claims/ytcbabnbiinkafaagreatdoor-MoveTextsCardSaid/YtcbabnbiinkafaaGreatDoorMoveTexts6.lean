/- Part 6 of the proof of: MoveTexts returns true for every input and never panics: the texts of an event and of a state, and the event and the state with any text, are as specified, or the errors, and right ones are read back; conditions: those of the given statement, that the package variables it lists hold what their initialisers lay. -/
import Derived.Test.YtcbabnbiinkafaaGreatDoorMoveTexts5
set_option linter.all false
section
open Go Go.Am
open Go.Am.Dat (cells)
namespace Go.Proofs.YtcbabnbiinkafaaGreatDoor
open Go.ChangeShapes Go.WideShapes Go.ChangeAt Go.RowKit
open Go.ChangeMaps (open_string shut_string)
set_option maxRecDepth 100000
theorem Cy : Tryz.prog.funcNamed Rows.moveTextsRow.func=some 17:=by kernel_rfl
theorem inst17 : Tryz.f17.isInstance Tryz.prog Rows.moveTextsRow.origin Rows.moveTextsRow.targs:=of_decide_eq_true (by kernel_rfl)
theorem wrap17 : Tryz.f17.isWrapper Tryz.prog Rows.moveTextsRow.wrapper Rows.moveTextsRow.mainSum:=by unfold Func.isWrapper;first | (rw[if_pos (by decide +kernel)];kernel_rfl) | (rw[if_neg (by decide +kernel)];exact⟨rfl,rfl⟩)
theorem over17 : Rows.moveTextsRow.holds Tryz.pinned (OpenSpec.ofChange Rows.moveTextsSpec):=
 OpenClaim.holds_of_wide 17 Tryz.f17 rfl rfl rfl rfl rfl rfl rfl ⟨rfl,rfl,rfl,rfl,rfl⟩ rfl rfl rfl rfl rfl Cy Tryz.func17 Du
  inst17 wrap17
  (fun os started H en _=>Dv os started H en)
theorem Dn : Rows.moveTextsRow.wfByText (OpenSpec.ofChange Rows.moveTextsSpec)=true:=by kernel_rfl
end Go.Proofs.YtcbabnbiinkafaaGreatDoor
end
