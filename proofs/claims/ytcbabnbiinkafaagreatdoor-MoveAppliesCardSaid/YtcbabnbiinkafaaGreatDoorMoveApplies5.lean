/- Part 5 of the proof of: MoveApplies returns true for every input and never panics: one event at a state gives the reference's state and error, and what is refused leaves nothing; conditions: those of the given statement, that the package variables it lists hold what their initialisers lay. -/
import Derived.Test.YtcbabnbiinkafaaGreatDoorMoveApplies4
set_option linter.all false
section
open Go Go.Am
open Go.Am.Dat (cells)
namespace Go.Proofs.YtcbabnbiinkafaaGreatDoor
open Go.ChangeShapes Go.WideShapes Go.ChangeAt Go.RowKit
open Go.ChangeMaps (open_string shut_string)
set_option maxRecDepth 100000
theorem Cc : joinedFacts Tryz.prog 12 Tryz.f12 Rows.moveAppliesSpec Rows.moveAppliesRow=true:=by
 unfold joinedFacts;rw[laidOut,jMaps,Cb,jUnf12,jRec12,Ca,jKeys12,jHeard,jEnter,jLift12,jMake12,jVeil12]
 kernel_rfl
end Go.Proofs.YtcbabnbiinkafaaGreatDoor
end
