/- Part 5 of the proof of: MoveKept returns true for every input and never panics: behind an event every packet not yet received stands in one cell and in one only, and the state is right; conditions: those of the given statement, that the package variables it lists hold what their initialisers lay. -/
import Derived.Test.YtcbabnbiinkafaaGreatDoorMoveKept4
set_option linter.all false
section
open Go Go.Am
open Go.Am.Dat (cells)
namespace Go.Proofs.YtcbabnbiinkafaaGreatDoor
open Go.ChangeShapes Go.WideShapes Go.ChangeAt Go.RowKit
open Go.ChangeMaps (open_string shut_string)
set_option maxRecDepth 100000
theorem BG : joinedFacts Tryz.prog 15 Tryz.f15 Rows.moveKeptSpec Rows.moveKeptRow=true:=by
 unfold joinedFacts;rw[laidOut,jMaps,BF,jUnf15,jRec15,BE,jKeys15,jHeard,jEnter,jLift15,jMake15,jVeil15]
 kernel_rfl
end Go.Proofs.YtcbabnbiinkafaaGreatDoor
end
