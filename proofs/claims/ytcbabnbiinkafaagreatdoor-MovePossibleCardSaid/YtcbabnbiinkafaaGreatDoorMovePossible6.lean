/- Part 6 of the proof of: MovePossible returns true for every input and never panics: the events that are possible at a time are those of the reference, or the same error, and Apply accepts each of them; conditions: those of the given statement. -/
import Derived.Test.YtcbabnbiinkafaaGreatDoorMovePossible5
set_option linter.all false
section
open Go Go.Am
open Go.Am.Dat (cells)
namespace Go.Proofs.YtcbabnbiinkafaaGreatDoor
open Go.ChangeShapes Go.WideShapes Go.ChangeAt Go.RowKit
open Go.ChangeMaps (open_string shut_string)
set_option maxRecDepth 100000
theorem CA : joinedFacts Tryz.prog 16 Tryz.f16 Rows.movePossibleSpec Rows.movePossibleRow=true:=by
 unfold joinedFacts;rw[laidOut,jMaps,Cz,jUnf16,jRec16,Cy,jKeys16,jHeard,jEnter,jLift16,jMake16,jVeil16]
 kernel_rfl
end Go.Proofs.YtcbabnbiinkafaaGreatDoor
end
