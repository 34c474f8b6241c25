/- MoveWaits returns true for every input and never panics: what waits in a state and when it is due are as the reference says, or the same error; conditions: those of the given statement, that the package variables it lists hold what their initialisers lay. -/
import Derived.Test.YtcbabnbiinkafaaGreatDoorMoveWaits6
set_option linter.all false
section
open Go Go.Am
open Go.Am.Dat (cells)
namespace Go.Proofs.YtcbabnbiinkafaaGreatDoor
open Go.ChangeShapes Go.WideShapes Go.ChangeAt Go.RowKit
open Go.ChangeMaps (open_string shut_string)
set_option maxRecDepth 100000
theorem stand14 : ([47,53].all fun u=>!Tryz.prog.wantsStandIn u)=true:=by kernel_rfl
theorem MoveWaits_holds : Rows.MoveWaitsCardSaid:=
 Claim7.holds_tied_plain_at .later [] [.data,.data,.data,.funcsDeep] true (true, "d069a4c99b5968b22d28cac5c5c755306057ef9b993700109f48ee8aa45049f1") true
  over14 (fun _ h=>by cases h) AX (fun _ h=>by cases h) moveWaits_row_tie rfl ⟨rfl,rfl⟩ mainIs0 rfl
  (fun f fn hf hfn=>by
   obtain rfl:f=14:=Option.some.inj (AA.symm.trans hf) |>.symm
   obtain rfl:fn=Tryz.f14:=(Option.some.inj (Tryz.func14.symm.trans hfn)).symm
   exact⟨looks0,fun j t ht=>by
    rw[Tryz.params14]at ht;have hm:t∈[47,53]:=by simpa using Array.mem_of_getElem? ht
    exact (show Tryz.prog.wantsStandIn t=false by simpa using zx.1 stand14 t hm)⟩)
  goes14
#print axioms MoveWaits_holds
end Go.Proofs.YtcbabnbiinkafaaGreatDoor
end
