/- Part 2 of the proof of: MovePingPongs returns true for every input and never panics: the ping-pongs among stays are as the reference says; conditions: those of the given statement, that the package variables it lists hold what their initialisers lay. -/
import Derived.Test.YtcbabnbiinkafaaGreatDoorMovePingPongs1
set_option linter.all false
section
open Go Go.Am
open Go.Am.Dat (cells)
namespace Go.Proofs.YtcbabnbiinkafaaGreatDoor
open Go.ChangeShapes Go.WideShapes Go.ChangeAt Go.RowKit
open Go.ChangeMaps (open_string shut_string)
set_option maxRecDepth 100000
theorem joined6 : joinedFacts Tryz.prog 6 Tryz.f6 Rows.movePingPongsSpec Rows.movePingPongsRow = true := by
 unfold joinedFacts
 rw [laidOut, jMaps, jPlace6, jUnf6, jRec6, jNamed6, jKeys6, jHeard, jEnter, jLift6, jMake6, jVeil6]
 kernel_rfl
end Go.Proofs.YtcbabnbiinkafaaGreatDoor
end
