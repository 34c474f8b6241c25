/- TopMoveOnceInOrder returns true for every input and never panics: behind any log the phone can get all packets that wait, once and in order; conditions: those of the given statement, that the package variables it lists hold what their initialisers lay. -/
import Derived.Test.YtcbabnbiinkafaaGreatDoorTopMoveOnceInOrder7
set_option linter.all false
section
open Go Go.Am
open Go.Am.Dat (cells)
namespace Go.Proofs.YtcbabnbiinkafaaGreatDoor
open Go.ChangeShapes Go.WideShapes Go.ChangeAt Go.RowKit
open Go.ChangeMaps (open_string shut_string)
set_option maxRecDepth 100000
theorem stand18 : ([47,3,48].all fun u=>!Tryz.prog.wantsStandIn u)=true:=by kernel_rfl
theorem TopMoveOnceInOrder_holds : Rows.TopMoveOnceInOrderCardSaid:=
 Claim7.holds_tied_plain_at .later [] [.data,.data,.data,.funcsDeep] true (true, "d069a4c99b5968b22d28cac5c5c755306057ef9b993700109f48ee8aa45049f1") true
  over18 (fun _ h=>by cases h) AZ (fun _ h=>by cases h) topMoveOnceInOrder_row_tie rfl ⟨rfl,rfl⟩ mainIs0 rfl
  (fun f fn hf hfn=>by
   obtain rfl:f=18:=Option.some.inj (Ag.symm.trans hf) |>.symm
   obtain rfl:fn=Tryz.f18:=(Option.some.inj (Tryz.func18.symm.trans hfn)).symm
   exact⟨looks0,fun j t ht=>by
    rw[Tryz.params18]at ht;have hm:t∈[47,3,48]:=by simpa using Array.mem_of_getElem? ht
    exact (show Tryz.prog.wantsStandIn t=false by simpa using zx.1 stand18 t hm)⟩)
  goes18
#print axioms TopMoveOnceInOrder_holds
end Go.Proofs.YtcbabnbiinkafaaGreatDoor
end
