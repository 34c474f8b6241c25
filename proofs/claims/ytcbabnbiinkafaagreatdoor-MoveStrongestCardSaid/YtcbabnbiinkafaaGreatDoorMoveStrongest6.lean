/- MoveStrongest returns true for every input and never panics: the strongest neighbour at the first tick at which one triggers is as the reference says, or the error; conditions: those of the given statement, that the package variables it lists hold what their initialisers lay. -/
import Derived.Test.YtcbabnbiinkafaaGreatDoorMoveStrongest5
set_option linter.all false
section
open Go Go.Am
open Go.Am.Dat (cells)
namespace Go.Proofs.YtcbabnbiinkafaaGreatDoor
open Go.ChangeShapes Go.WideShapes Go.ChangeAt Go.RowKit
open Go.ChangeMaps (open_string shut_string)
set_option maxRecDepth 100000
theorem stand10 : ([23,51,3].all fun u=>!Tryz.prog.wantsStandIn u)=true:=by kernel_rfl
theorem MoveStrongest_holds : Rows.MoveStrongestCardSaid:=
 Claim7.holds_tied_plain_at .later [] [.data,.data,.data,.funcsDeep] true (true, "d069a4c99b5968b22d28cac5c5c755306057ef9b993700109f48ee8aa45049f1") true
  over10 (fun _ h=>by cases h) yT (fun _ h=>by cases h) moveStrongest_row_tie rfl ⟨rfl,rfl⟩ mainIs0 rfl
  (fun f fn hf hfn=>by
   obtain rfl:f=10:=Option.some.inj (x5.symm.trans hf) |>.symm
   obtain rfl:fn=Tryz.f10:=(Option.some.inj (Tryz.func10.symm.trans hfn)).symm
   exact⟨looks0,fun j t ht=>by
    rw[Tryz.params10]at ht;have hm:t∈[23,51,3]:=by simpa using Array.mem_of_getElem? ht
    exact (show Tryz.prog.wantsStandIn t=false by simpa using zx.1 stand10 t hm)⟩)
  goes10
#print axioms MoveStrongest_holds
end Go.Proofs.YtcbabnbiinkafaaGreatDoor
end
