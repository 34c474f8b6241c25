/- Part 4 of the proof of: MoveLess returns true for every input and never panics: an event that only tells the time, put into a right log, changes neither the state nor the stays nor the longest outage; conditions: those of the given statement, that the package variables it lists hold what their initialisers lay. -/
import Derived.Test.YtcbabnbiinkafaaGreatDoorMoveLess3
set_option linter.all false
section
open Go Go.Am
open Go.Am.Dat (cells)
namespace Go.Proofs.YtcbabnbiinkafaaGreatDoor
open Go.ChangeShapes Go.WideShapes Go.ChangeAt Go.RowKit
open Go.ChangeMaps (open_string shut_string)
set_option maxRecDepth 100000
theorem joined8 : joinedFacts Tryz.prog 8 Tryz.f8 Rows.moveLessSpec Rows.moveLessRow=true:=by
 unfold joinedFacts;rw[laidOut,jMaps,jPlace8,jUnf8,jRec8,jNamed8,jKeys8,jHeard,jEnter,jLift8,jMake8,jVeil8]
 kernel_rfl
end Go.Proofs.YtcbabnbiinkafaaGreatDoor
end
