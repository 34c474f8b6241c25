/- TopMoveConnectedAgain returns true for every input and never panics: a phone that fails at any time is connected again within the limit, to its own cell or to the first one, its outage is as long, and what waited waits still; conditions: those of the given statement, that the package variables it lists hold what their initialisers lay. -/
import Derived.Test.YtcbabnbiinkafaaGreatDoorTopMoveConnectedAgain8
set_option linter.all false
section
open Go Go.Am
open Go.Am.Dat (cells)
namespace Go.Proofs.YtcbabnbiinkafaaGreatDoor
open Go.ChangeShapes Go.WideShapes Go.ChangeAt Go.RowKit
open Go.ChangeMaps (open_string shut_string)
set_option maxRecDepth 100000
theorem stand19 : ([47,48,79].all fun u=>!Tryz.prog.wantsStandIn u)=true:=by kernel_rfl
theorem TopMoveConnectedAgain_holds : Rows.TopMoveConnectedAgainCardSaid:=
 Claim7.holds_tied_plain_at .later [] [.data,.data,.data,.funcsDeep] true (true, "d069a4c99b5968b22d28cac5c5c755306057ef9b993700109f48ee8aa45049f1") true
  over19 (fun _ h=>by cases h) Cf (fun _ h=>by cases h) topMoveConnectedAgain_row_tie rfl ⟨rfl,rfl⟩ mainIs0 rfl
  (fun f fn hf hfn=>by
   obtain rfl:f=19:=Option.some.inj (Bk.symm.trans hf) |>.symm
   obtain rfl:fn=Tryz.f19:=(Option.some.inj (Tryz.func19.symm.trans hfn)).symm
   exact⟨looks0,fun j t ht=>by
    rw[Tryz.params19]at ht;have hm:t∈[47,48,79]:=by simpa using Array.mem_of_getElem? ht
    exact (show Tryz.prog.wantsStandIn t=false by simpa using zx.1 stand19 t hm)⟩)
  goes19
#print axioms TopMoveConnectedAgain_holds
end Go.Proofs.YtcbabnbiinkafaaGreatDoor
end
