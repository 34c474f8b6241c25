/- MoveLess returns true for every input and never panics: an event that only tells the time, put into a right log, changes neither the state nor the stays nor the longest outage; conditions: those of the given statement, that the package variables it lists hold what their initialisers lay. -/
import Derived.Test.YtcbabnbiinkafaaGreatDoorMoveLess6
set_option linter.all false
section
open Go Go.Am
open Go.Am.Dat (cells)
namespace Go.Proofs.YtcbabnbiinkafaaGreatDoor
open Go.ChangeShapes Go.WideShapes Go.ChangeAt Go.RowKit
open Go.ChangeMaps (open_string shut_string)
set_option maxRecDepth 100000
theorem stand8 : ([47,48,79].all fun u=>!Tryz.prog.wantsStandIn u)=true:=by kernel_rfl
theorem MoveLess_holds : Rows.MoveLessCardSaid:=
 Claim7.holds_tied_plain_at .later [] [.data,.data,.data,.funcsDeep] true (true, "d069a4c99b5968b22d28cac5c5c755306057ef9b993700109f48ee8aa45049f1") true
  over8 (fun _ h=>by cases h) byText8 (fun _ h=>by cases h) moveLess_row_tie rfl ⟨rfl,rfl⟩ mainIs0 rfl
  (fun f fn hf hfn=>by
   obtain rfl:f=8:=Option.some.inj (AT.symm.trans hf) |>.symm
   obtain rfl:fn=Tryz.f8:=(Option.some.inj (Tryz.func8.symm.trans hfn)).symm
   exact⟨looks0,fun j t ht=>by
    rw[Tryz.params8]at ht;have hm:t∈[47,48,79]:=by simpa using Array.mem_of_getElem? ht
    exact (show Tryz.prog.wantsStandIn t=false by simpa using zx.1 stand8 t hm)⟩)
  goes8
#print axioms MoveLess_holds
end Go.Proofs.YtcbabnbiinkafaaGreatDoor
end
