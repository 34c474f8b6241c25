/- Part 8 of the proof of: MovePossible returns true for every input and never panics: the events that are possible at a time are those of the reference, or the same error, and Apply accepts each of them; conditions: those of the given statement. -/
import Derived.Test.YtcbabnbiinkafaaGreatDoorMovePossible7
set_option linter.all false
section
open Go Go.Am
open Go.Am.Dat (cells)
namespace Go.Proofs.YtcbabnbiinkafaaGreatDoor
open Go.ChangeShapes Go.WideShapes Go.ChangeAt Go.RowKit
open Go.ChangeMaps (open_string shut_string)
set_option maxRecDepth 100000
theorem goes16 : false=Rows.movePossibleRow.goesBy Tryz.prog:=by kernel_rfl
end Go.Proofs.YtcbabnbiinkafaaGreatDoor
end
