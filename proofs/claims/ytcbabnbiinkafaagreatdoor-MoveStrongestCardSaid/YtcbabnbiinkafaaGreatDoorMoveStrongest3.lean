/- Part 3 of the proof of: MoveStrongest returns true for every input and never panics: the strongest neighbour at the first tick at which one triggers is as the reference says, or the error; conditions: those of the given statement, that the package variables it lists hold what their initialisers lay. -/
import Derived.Test.YtcbabnbiinkafaaGreatDoorMoveStrongest2
set_option linter.all false
section
open Go Go.Am
open Go.Am.Dat (cells)
namespace Go.Proofs.YtcbabnbiinkafaaGreatDoor
open Go.ChangeShapes Go.WideShapes Go.ChangeAt Go.RowKit
open Go.ChangeMaps (open_string shut_string)
set_option maxRecDepth 100000
theorem yW : joinedFacts Tryz.prog 10 Tryz.f10 Rows.moveStrongestSpec Rows.moveStrongestRow=true:=by
 unfold joinedFacts;rw[laidOut,jMaps,yV,jUnf10,jRec10,yU,jKeys10,jHeard,jEnter,jLift10,jMake10,jVeil10]
 kernel_rfl
end Go.Proofs.YtcbabnbiinkafaaGreatDoor
end
