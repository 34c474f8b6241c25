/- Part 7 of the proof of: TopMoveOnceInOrder returns true for every input and never panics: behind any log the phone can get all packets that wait, once and in order; conditions: those of the given statement, that the package variables it lists hold what their initialisers lay. -/
import Derived.Test.YtcbabnbiinkafaaGreatDoorTopMoveOnceInOrder6
set_option linter.all false
section
open Go Go.Am
open Go.Am.Dat (cells)
namespace Go.Proofs.YtcbabnbiinkafaaGreatDoor
open Go.ChangeShapes Go.WideShapes Go.ChangeAt Go.RowKit
open Go.ChangeMaps (open_string shut_string)
set_option maxRecDepth 100000
theorem goes18 : false=Rows.topMoveOnceInOrderRow.goesBy Tryz.prog:=by kernel_rfl
end Go.Proofs.YtcbabnbiinkafaaGreatDoor
end
