/- Part 5 of the proof of: TopMoveOnceInOrder returns true for every input and never panics: behind any log the phone can get all packets that wait, once and in order; conditions: those of the given statement, that the package variables it lists hold what their initialisers lay. -/
import Derived.Test.YtcbabnbiinkafaaGreatDoorTopMoveOnceInOrder4
set_option linter.all false
section
open Go Go.Am
open Go.Am.Dat (cells)
namespace Go.Proofs.YtcbabnbiinkafaaGreatDoor
open Go.ChangeShapes Go.WideShapes Go.ChangeAt Go.RowKit
open Go.ChangeMaps (open_string shut_string)
set_option maxRecDepth 100000
theorem Bf : joinedFacts Tryz.prog 18 Tryz.f18 Rows.topMoveOnceInOrderSpec Rows.topMoveOnceInOrderRow=true:=by
 unfold joinedFacts;rw[laidOut,jMaps,Be,jUnf18,jRec18,Bd,jKeys18,jHeard,jEnter,jLift18,jMake18,jVeil18]
 kernel_rfl
end Go.Proofs.YtcbabnbiinkafaaGreatDoor
end
