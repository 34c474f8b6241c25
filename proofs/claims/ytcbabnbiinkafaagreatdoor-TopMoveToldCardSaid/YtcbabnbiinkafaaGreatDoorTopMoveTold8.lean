/- Part 8 of the proof of: TopMoveTold returns true for every input and never panics: a right log told in texts, and in two halves with the state told between them, gives the same state, and what is possible there is the same and not nothing; conditions: those of the given statement, that the package variables it lists hold what their initialisers lay. -/
import Derived.Test.YtcbabnbiinkafaaGreatDoorTopMoveTold7
set_option linter.all false
set_option maxHeartbeats 8000000
set_option maxRecDepth 100000
section
open Go Go.Am
open Go.Am.Dat (cells)
namespace Go.Proofs.YtcbabnbiinkafaaGreatDoor
open Go.ChangeShapes Go.WideShapes Go.ChangeAt Go.RowKit
open Go.ChangeMaps (open_string shut_string)
theorem Dr : Tryz.prog.funcNamed Rows.topMoveToldRow.func=some 20:=by kernel_rfl
theorem inst20 : Tryz.f20.isInstance Tryz.prog Rows.topMoveToldRow.origin Rows.topMoveToldRow.targs:=of_decide_eq_true (by kernel_rfl)
theorem wrap20 : Tryz.f20.isWrapper Tryz.prog Rows.topMoveToldRow.wrapper Rows.topMoveToldRow.mainSum:=by unfold Func.isWrapper;first | (rw[qb (by decide +kernel)];kernel_rfl) | (rw[qa (by decide +kernel)];exact⟨rfl,rfl⟩)
theorem over20 : Rows.topMoveToldRow.holds Tryz.pinned (OpenSpec.ofChange Rows.topMoveToldSpec):=
 OpenClaim.holds_of_wide 20 Tryz.f20 rfl rfl rfl rfl rfl rfl rfl ⟨rfl,rfl,rfl,rfl,rfl⟩ rfl rfl rfl rfl rfl Dr Tryz.func20 Fc
  inst20 wrap20
  (fun os started H en _=>Fd os started H en)
theorem EV : Rows.topMoveToldRow.wfByText (OpenSpec.ofChange Rows.topMoveToldSpec)=true:=by kernel_rfl
end Go.Proofs.YtcbabnbiinkafaaGreatDoor
end
