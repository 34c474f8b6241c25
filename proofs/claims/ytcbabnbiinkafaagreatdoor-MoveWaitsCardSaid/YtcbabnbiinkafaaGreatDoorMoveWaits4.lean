/- Part 4 of the proof of: MoveWaits returns true for every input and never panics: what waits in a state and when it is due are as the reference says, or the same error; conditions: those of the given statement, that the package variables it lists hold what their initialisers lay. -/
import Derived.Test.YtcbabnbiinkafaaGreatDoorMoveWaits3
set_option linter.all false
section
open Go Go.Am
open Go.Am.Dat (cells)
namespace Go.Proofs.YtcbabnbiinkafaaGreatDoor
open Go.ChangeShapes Go.WideShapes Go.ChangeAt Go.RowKit
open Go.ChangeMaps (open_string shut_string)
set_option maxRecDepth 100000
theorem Bc : joinedFacts Tryz.prog 14 Tryz.f14 Rows.moveWaitsSpec Rows.moveWaitsRow=true:=by
 unfold joinedFacts;rw[laidOut,jMaps,Bb,jUnf14,jRec14,Ba,jKeys14,jHeard,jEnter,jLift14,jMake14,jVeil14]
 kernel_rfl
end Go.Proofs.YtcbabnbiinkafaaGreatDoor
end
