/- MoveOnce returns true for every input and never panics: every packet of a log comes once and in its order, or still waits; conditions: those of the given statement, that the package variables it lists hold what their initialisers lay. -/
import Derived.Test.YtcbabnbiinkafaaGreatDoorMoveOnce6
set_option linter.all false
section
open Go Go.Am
open Go.Am.Dat (cells)
namespace Go.Proofs.YtcbabnbiinkafaaGreatDoor
open Go.ChangeShapes Go.WideShapes Go.ChangeAt Go.RowKit
open Go.ChangeMaps (open_string shut_string)
set_option maxRecDepth 100000
theorem stand13 : ([47,3,48].all fun u=>!Tryz.prog.wantsStandIn u)=true:=by kernel_rfl
theorem MoveOnce_holds : Rows.MoveOnceCardSaid:=
 Claim7.holds_tied_plain_at .later [] [.data,.data,.data,.funcsDeep] true (true, "d069a4c99b5968b22d28cac5c5c755306057ef9b993700109f48ee8aa45049f1") true
  over13 (fun _ h=>by cases h) Bh (fun _ h=>by cases h) moveOnce_row_tie rfl ⟨rfl,rfl⟩ mainIs0 rfl
  (fun f fn hf hfn=>by
   obtain rfl:f=13:=Option.some.inj (Az.symm.trans hf) |>.symm
   obtain rfl:fn=Tryz.f13:=(Option.some.inj (Tryz.func13.symm.trans hfn)).symm
   exact⟨looks0,fun j t ht=>by
    rw[Tryz.params13]at ht;have hm:t∈[47,3,48]:=by simpa using Array.mem_of_getElem? ht
    exact (show Tryz.prog.wantsStandIn t=false by simpa using zx.1 stand13 t hm)⟩)
  goes13
#print axioms MoveOnce_holds
end Go.Proofs.YtcbabnbiinkafaaGreatDoor
end
