/- Part 2 of the proof of: MoveTriggers returns true for every input and never panics: what is measured triggers as the reference says; conditions: those of the given statement, that the package variables it lists hold what their initialisers lay. -/
import Derived.Test.YtcbabnbiinkafaaGreatDoorMoveTriggers1
set_option linter.all false
section
open Go Go.Am
open Go.Am.Dat (cells)
namespace Go.Proofs.YtcbabnbiinkafaaGreatDoor
open Go.ChangeShapes Go.WideShapes Go.ChangeAt Go.RowKit
open Go.ChangeMaps (open_string shut_string)
set_option maxRecDepth 100000
theorem joined3 : joinedFacts Tryz.prog 3 Tryz.f3 Rows.moveTriggersSpec Rows.moveTriggersRow = true := by
 unfold joinedFacts
 rw [laidOut, jMaps, jPlace3, jUnf3, jRec3, jNamed3, jKeys3, jHeard, jEnter, jLift3, jMake3, jVeil3]
 kernel_rfl
end Go.Proofs.YtcbabnbiinkafaaGreatDoor
end
