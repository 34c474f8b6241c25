/- Part 6 of the proof of: TopMoveConnectedAgain returns true for every input and never panics: a phone that fails at any time is connected again within the limit, to its own cell or to the first one, its outage is as long, and what waited waits still; conditions: those of the given statement, that the package variables it lists hold what their initialisers lay. -/
import Derived.Test.YtcbabnbiinkafaaGreatDoorTopMoveConnectedAgain5
set_option linter.all false
section
open Go Go.Am
open Go.Am.Dat (cells)
namespace Go.Proofs.YtcbabnbiinkafaaGreatDoor
open Go.ChangeShapes Go.WideShapes Go.ChangeAt Go.RowKit
open Go.ChangeMaps (open_string shut_string)
set_option maxRecDepth 100000
theorem Co : joinedFacts Tryz.prog 19 Tryz.f19 Rows.topMoveConnectedAgainSpec Rows.topMoveConnectedAgainRow=true:=by
 unfold joinedFacts;rw[laidOut,jMaps,Cm,jUnf19,jRec19,Cl,jKeys19,jHeard,jEnter,jLift19,jMake19,jVeil19]
 kernel_rfl
end Go.Proofs.YtcbabnbiinkafaaGreatDoor
end
