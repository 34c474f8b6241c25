/- Part 4 of the proof of: MoveLater returns true for every input and never panics: a rule that is harder to meet never triggers earlier; conditions: those of the given statement, that the package variables it lists hold what their initialisers lay. -/
import Derived.Test.YtcbabnbiinkafaaGreatDoorMoveLater3
set_option linter.all false
section
open Go Go.Am
open Go.Am.Dat (cells)
namespace Go.Proofs.YtcbabnbiinkafaaGreatDoor
open Go.ChangeShapes Go.WideShapes Go.ChangeAt Go.RowKit
open Go.ChangeMaps (open_string shut_string)
set_option maxRecDepth 100000
theorem goes4 : false = Rows.moveLaterRow.goesBy Tryz.prog := by kernel_rfl
end Go.Proofs.YtcbabnbiinkafaaGreatDoor
end
