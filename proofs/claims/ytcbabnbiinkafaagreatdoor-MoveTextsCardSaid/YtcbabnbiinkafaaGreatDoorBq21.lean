/- Part 21 of the proof of: the statements about chapter 8 -/
import Derived.Test.YtcbabnbiinkafaaGreatDoorBq20
set_option linter.all false
section
open Go Go.Am
open Go.Am.Dat (cells)
namespace Go.Proofs.YtcbabnbiinkafaaGreatDoor
open Go.ChangeShapes Go.WideShapes Go.ChangeAt Go.RowKit
open Go.ChangeMaps (open_string shut_string)
set_option maxRecDepth 100000
theorem looks0 : true=Tryz.prog.looks []:=by kernel_rfl
end Go.Proofs.YtcbabnbiinkafaaGreatDoor
end
