/- Part 6 of the proof of: MoveOnce returns true for every input and never panics: every packet of a log comes once and in its order, or still waits; conditions: those of the given statement, that the package variables it lists hold what their initialisers lay. -/
import Derived.Test.YtcbabnbiinkafaaGreatDoorMoveOnce5
set_option linter.all false
section
open Go Go.Am
open Go.Am.Dat (cells)
namespace Go.Proofs.YtcbabnbiinkafaaGreatDoor
open Go.ChangeShapes Go.WideShapes Go.ChangeAt Go.RowKit
open Go.ChangeMaps (open_string shut_string)
set_option maxRecDepth 100000
theorem goes13 : false=Rows.moveOnceRow.goesBy Tryz.prog:=by kernel_rfl
end Go.Proofs.YtcbabnbiinkafaaGreatDoor
end
