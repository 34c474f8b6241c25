/- Part 6 of the proof of: MoveWaits returns true for every input and never panics: what waits in a state and when it is due are as the reference says, or the same error; conditions: those of the given statement, that the package variables it lists hold what their initialisers lay. -/
import Derived.Test.YtcbabnbiinkafaaGreatDoorMoveWaits5
set_option linter.all false
section
open Go Go.Am
open Go.Am.Dat (cells)
namespace Go.Proofs.YtcbabnbiinkafaaGreatDoor
open Go.ChangeShapes Go.WideShapes Go.ChangeAt Go.RowKit
open Go.ChangeMaps (open_string shut_string)
set_option maxRecDepth 100000
theorem goes14 : false=Rows.moveWaitsRow.goesBy Tryz.prog:=by kernel_rfl
end Go.Proofs.YtcbabnbiinkafaaGreatDoor
end
