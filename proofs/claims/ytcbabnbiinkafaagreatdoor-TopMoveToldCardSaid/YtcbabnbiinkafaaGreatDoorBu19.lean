/- Part 19 of the proof of: the statements about chapter 8 -/
import Derived.Test.YtcbabnbiinkafaaGreatDoorBu18
set_option linter.all false
set_option maxHeartbeats 8000000
set_option maxRecDepth 100000
section
open Go Go.Am
open Go.Am.Dat (cells)
namespace Go.Proofs.YtcbabnbiinkafaaGreatDoor
open Go.ChangeShapes Go.WideShapes Go.ChangeAt Go.RowKit
open Go.ChangeMaps (open_string shut_string)
theorem mainIs0 : Tryz.prog.mainIs=some (true, "d069a4c99b5968b22d28cac5c5c755306057ef9b993700109f48ee8aa45049f1".toList):=by kernel_rfl
end Go.Proofs.YtcbabnbiinkafaaGreatDoor
end
