/- Part 6 of the proof of: MoveStays returns true for every input and never panics: the stays and the longest outage of a log are as the reference says, stays follow one another, and no outage takes longer than the limit; conditions: those of the given statement, that the package variables it lists hold what their initialisers lay. -/
import Derived.Test.YtcbabnbiinkafaaGreatDoorMoveStays5
set_option linter.all false
section
open Go Go.Am
open Go.Am.Dat (cells)
namespace Go.Proofs.YtcbabnbiinkafaaGreatDoor
open Go.ChangeShapes Go.WideShapes Go.ChangeAt Go.RowKit
open Go.ChangeMaps (open_string shut_string)
set_option maxRecDepth 100000
theorem goes9 : false=Rows.moveStaysRow.goesBy Tryz.prog:=by kernel_rfl
end Go.Proofs.YtcbabnbiinkafaaGreatDoor
end
