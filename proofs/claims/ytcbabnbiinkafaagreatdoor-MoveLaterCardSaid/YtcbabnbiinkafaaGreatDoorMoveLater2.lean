/- Part 2 of the proof of: MoveLater returns true for every input and never panics: a rule that is harder to meet never triggers earlier; conditions: those of the given statement, that the package variables it lists hold what their initialisers lay. -/
import Derived.Test.YtcbabnbiinkafaaGreatDoorMoveLater1
set_option linter.all false
section
open Go Go.Am
open Go.Am.Dat (cells)
namespace Go.Proofs.YtcbabnbiinkafaaGreatDoor
open Go.ChangeShapes Go.WideShapes Go.ChangeAt Go.RowKit
open Go.ChangeMaps (open_string shut_string)
set_option maxRecDepth 100000
theorem joined4 : joinedFacts Tryz.prog 4 Tryz.f4 Rows.moveLaterSpec Rows.moveLaterRow = true := by
 unfold joinedFacts
 rw [laidOut, jMaps, jPlace4, jUnf4, jRec4, jNamed4, jKeys4, jHeard, jEnter, jLift4, jMake4, jVeil4]
 kernel_rfl
end Go.Proofs.YtcbabnbiinkafaaGreatDoor
end
