/- Part 2 of the proof of: MoveNetworks returns true for every input and never panics: the answer to a cell of a network, the network's own checks and the state's beginning, are as the reference says; conditions: those of the given statement, that the package variables it lists hold what their initialisers lay. -/
import Derived.Test.YtcbabnbiinkafaaGreatDoorMoveNetworks1
set_option linter.all false
section
open Go Go.Am
open Go.Am.Dat (cells)
namespace Go.Proofs.YtcbabnbiinkafaaGreatDoor
open Go.ChangeShapes Go.WideShapes Go.ChangeAt Go.RowKit
open Go.ChangeMaps (open_string shut_string)
set_option maxRecDepth 100000
theorem joined7 : joinedFacts Tryz.prog 7 Tryz.f7 Rows.moveNetworksSpec Rows.moveNetworksRow = true := by
 unfold joinedFacts
 rw [laidOut, jMaps, jPlace7, jUnf7, jRec7, jNamed7, jKeys7, jHeard, jEnter, jLift7, jMake7, jVeil7]
 kernel_rfl
end Go.Proofs.YtcbabnbiinkafaaGreatDoor
end
