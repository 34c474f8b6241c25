/- Part 4 of the proof of: MoveStates returns true for every input and never panics: the error of a state and of an event is as the reference says, for networks that are right and for those that are not; conditions: those of the given statement, that the package variables it lists hold what their initialisers lay. -/
import Derived.Test.YtcbabnbiinkafaaGreatDoorMoveStates3
set_option linter.all false
section
open Go Go.Am
open Go.Am.Dat (cells)
namespace Go.Proofs.YtcbabnbiinkafaaGreatDoor
open Go.ChangeShapes Go.WideShapes Go.ChangeAt Go.RowKit
open Go.ChangeMaps (open_string shut_string)
set_option maxRecDepth 100000
theorem AW : joinedFacts Tryz.prog 11 Tryz.f11 Rows.moveStatesSpec Rows.moveStatesRow=true:=by
 unfold joinedFacts;rw[laidOut,jMaps,AV,jUnf11,jRec11,AU,jKeys11,jHeard,jEnter,jLift11,jMake11,jVeil11]
 kernel_rfl
end Go.Proofs.YtcbabnbiinkafaaGreatDoor
end
