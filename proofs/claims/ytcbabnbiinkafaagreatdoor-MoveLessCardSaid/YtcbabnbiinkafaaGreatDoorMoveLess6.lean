/- Part 6 of the proof of: MoveLess returns true for every input and never panics: an event that only tells the time, put into a right log, changes neither the state nor the stays nor the longest outage; conditions: those of the given statement, that the package variables it lists hold what their initialisers lay. -/
import Derived.Test.YtcbabnbiinkafaaGreatDoorMoveLess5
set_option linter.all false
section
open Go Go.Am
open Go.Am.Dat (cells)
namespace Go.Proofs.YtcbabnbiinkafaaGreatDoor
open Go.ChangeShapes Go.WideShapes Go.ChangeAt Go.RowKit
open Go.ChangeMaps (open_string shut_string)
set_option maxRecDepth 100000
theorem goes8 : false=Rows.moveLessRow.goesBy Tryz.prog:=by kernel_rfl
end Go.Proofs.YtcbabnbiinkafaaGreatDoor
end
