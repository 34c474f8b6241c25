/- Part 4 of the proof of: MoveOnce returns true for every input and never panics: every packet of a log comes once and in its order, or still waits; conditions: those of the given statement, that the package variables it lists hold what their initialisers lay. -/
import Derived.Test.YtcbabnbiinkafaaGreatDoorMoveOnce3
set_option linter.all false
section
open Go Go.Am
open Go.Am.Dat (cells)
namespace Go.Proofs.YtcbabnbiinkafaaGreatDoor
open Go.ChangeShapes Go.WideShapes Go.ChangeAt Go.RowKit
open Go.ChangeMaps (open_string shut_string)
set_option maxRecDepth 100000
theorem Bp : joinedFacts Tryz.prog 13 Tryz.f13 Rows.moveOnceSpec Rows.moveOnceRow=true:=by
 unfold joinedFacts;rw[laidOut,jMaps,Bo,jUnf13,jRec13,Bn,jKeys13,jHeard,jEnter,jLift13,jMake13,jVeil13]
 kernel_rfl
end Go.Proofs.YtcbabnbiinkafaaGreatDoor
end
