/- MoveApplies returns true for every input and never panics: one event at a state gives the reference's state and error, and what is refused leaves nothing; conditions: those of the given statement, that the package variables it lists hold what their initialisers lay. -/
import Derived.Test.YtcbabnbiinkafaaGreatDoorMoveApplies7
set_option linter.all false
section
open Go Go.Am
open Go.Am.Dat (cells)
namespace Go.Proofs.YtcbabnbiinkafaaGreatDoor
open Go.ChangeShapes Go.WideShapes Go.ChangeAt Go.RowKit
open Go.ChangeMaps (open_string shut_string)
set_option maxRecDepth 100000
theorem stand12 : ([47,53,83].all fun u=>!Tryz.prog.wantsStandIn u)=true:=by kernel_rfl
theorem MoveApplies_holds : Rows.MoveAppliesCardSaid:=
 Claim7.holds_tied_plain_at .later [] [.data,.data,.data,.funcsDeep] true (true, "d069a4c99b5968b22d28cac5c5c755306057ef9b993700109f48ee8aa45049f1") true
  over12 (fun _ h=>by cases h) B6 (fun _ h=>by cases h) moveApplies_row_tie rfl ⟨rfl,rfl⟩ mainIs0 rfl
  (fun f fn hf hfn=>by
   obtain rfl:f=12:=Option.some.inj (By.symm.trans hf) |>.symm
   obtain rfl:fn=Tryz.f12:=(Option.some.inj (Tryz.func12.symm.trans hfn)).symm
   exact⟨looks0,fun j t ht=>by
    rw[Tryz.params12]at ht;have hm:t∈[47,53,83]:=by simpa using Array.mem_of_getElem? ht
    exact (show Tryz.prog.wantsStandIn t=false by simpa using zx.1 stand12 t hm)⟩)
  goes12
#print axioms MoveApplies_holds
end Go.Proofs.YtcbabnbiinkafaaGreatDoor
end
