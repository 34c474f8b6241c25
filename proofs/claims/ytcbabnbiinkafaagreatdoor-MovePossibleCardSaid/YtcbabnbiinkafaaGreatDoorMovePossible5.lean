/- Part 5 of the proof of: MovePossible returns true for every input and never panics: the events that are possible at a time are those of the reference, or the same error, and Apply accepts each of them; conditions: those of the given statement. -/
import Derived.Test.YtcbabnbiinkafaaGreatDoorMovePossible4
set_option linter.all false
section
open Go Go.Am
open Go.Am.Dat (cells)
namespace Go.Proofs.YtcbabnbiinkafaaGreatDoor
open Go.ChangeShapes Go.WideShapes Go.ChangeAt Go.RowKit
open Go.ChangeMaps (open_string shut_string)
set_option maxRecDepth 100000
theorem Cy : (Rows.movePossibleRow.named == Tryz.prog.varsNamed 16)=true:=by kernel_rfl
theorem jKeys16 : (Rows.movePossibleRow.plainKeys == Tryz.prog.plainKeys)=true:=jKeys
theorem jLift16 : (Rows.movePossibleRow.lifted == Tryz.prog.liftsFinal)=true:=jLift
theorem jMake16 : (Tryz.prog.make == some Rows.movePossibleRow.make)=true:=jMake
theorem jVeil16 : Rows.movePossibleRow.veiledFits Tryz.prog Tryz.f16.params.toList (Tryz.f16.params.toList++Rows.movePossibleSpec.plain.varTypes Tryz.prog++Tryz.f16.resultTypes.toList)=true:=by kernel_rfl
end Go.Proofs.YtcbabnbiinkafaaGreatDoor
end
