/- Part 4 of the proof of: MoveStays returns true for every input and never panics: the stays and the longest outage of a log are as the reference says, stays follow one another, and no outage takes longer than the limit; conditions: those of the given statement, that the package variables it lists hold what their initialisers lay. -/
import Derived.Test.YtcbabnbiinkafaaGreatDoorMoveStays3
set_option linter.all false
section
open Go Go.Am
open Go.Am.Dat (cells)
namespace Go.Proofs.YtcbabnbiinkafaaGreatDoor
open Go.ChangeShapes Go.WideShapes Go.ChangeAt Go.RowKit
open Go.ChangeMaps (open_string shut_string)
set_option maxRecDepth 100000
theorem joined9 : joinedFacts Tryz.prog 9 Tryz.f9 Rows.moveStaysSpec Rows.moveStaysRow=true:=by
 unfold joinedFacts;rw[laidOut,jMaps,jPlace9,jUnf9,jRec9,jNamed9,jKeys9,jHeard,jEnter,jLift9,jMake9,jVeil9]
 kernel_rfl
end Go.Proofs.YtcbabnbiinkafaaGreatDoor
end
