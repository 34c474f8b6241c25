/- Part 5 of the proof of: MoveTexts returns true for every input and never panics: the texts of an event and of a state, and the event and the state with any text, are as specified, or the errors, and right ones are read back; conditions: those of the given statement, that the package variables it lists hold what their initialisers lay. -/
import Derived.Test.YtcbabnbiinkafaaGreatDoorMoveTexts4
set_option linter.all false
section
open Go Go.Am
open Go.Am.Dat (cells)
namespace Go.Proofs.YtcbabnbiinkafaaGreatDoor
open Go.ChangeShapes Go.WideShapes Go.ChangeAt Go.RowKit
open Go.ChangeMaps (open_string shut_string)
set_option maxRecDepth 100000
theorem Du : joinedFacts Tryz.prog 17 Tryz.f17 Rows.moveTextsSpec Rows.moveTextsRow=true:=by
 unfold joinedFacts;rw[laidOut,jMaps,Dr,jUnf17,jRec17,Dq,jKeys17,jHeard,jEnter,jLift17,jMake17,jVeil17]
 kernel_rfl
end Go.Proofs.YtcbabnbiinkafaaGreatDoor
end
