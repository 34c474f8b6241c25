/- Part 6 of the proof of: MoveKept returns true for every input and never panics: behind an event every packet not yet received stands in one cell and in one only, and the state is right; conditions: those of the given statement, that the package variables it lists hold what their initialisers lay. -/
import Derived.Test.YtcbabnbiinkafaaGreatDoorMoveKept5
set_option linter.all false
section
open Go Go.Am
open Go.Am.Dat (cells)
namespace Go.Proofs.YtcbabnbiinkafaaGreatDoor
open Go.ChangeShapes Go.WideShapes Go.ChangeAt Go.RowKit
open Go.ChangeMaps (open_string shut_string)
set_option maxRecDepth 100000
theorem AY : Tryz.prog.funcNamed Rows.moveKeptRow.func=some 15:=by kernel_rfl
theorem inst15 : Tryz.f15.isInstance Tryz.prog Rows.moveKeptRow.origin Rows.moveKeptRow.targs:=of_decide_eq_true (by kernel_rfl)
theorem wrap15 : Tryz.f15.isWrapper Tryz.prog Rows.moveKeptRow.wrapper Rows.moveKeptRow.mainSum:=by unfold Func.isWrapper;first | (rw[if_pos (by decide +kernel)];kernel_rfl) | (rw[if_neg (by decide +kernel)];exact⟨rfl,rfl⟩)
theorem over15 : Rows.moveKeptRow.holds Tryz.pinned (OpenSpec.ofChange Rows.moveKeptSpec):=
 OpenClaim.holds_of_wide 15 Tryz.f15 rfl rfl rfl rfl rfl rfl rfl ⟨rfl,rfl,rfl,rfl,rfl⟩ rfl rfl rfl rfl rfl AY Tryz.func15 BG
  inst15 wrap15
  (fun os started H en _=>BH os started H en)
theorem Bz : Rows.moveKeptRow.wfByText (OpenSpec.ofChange Rows.moveKeptSpec)=true:=by kernel_rfl
end Go.Proofs.YtcbabnbiinkafaaGreatDoor
end
