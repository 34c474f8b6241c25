/- MoveReplays returns true for every input and never panics: the state behind a log, or the number of a wrong event and the error, and the numbers that the phone takes, are as the reference says; conditions: those of the given statement, that the package variables it lists hold what their initialisers lay. -/
import Derived.Test.YtcbabnbiinkafaaGreatDoorMoveReplays6
set_option linter.all false
section
open Go Go.Am
open Go.Am.Dat (cells)
namespace Go.Proofs.YtcbabnbiinkafaaGreatDoor
open Go.ChangeShapes Go.WideShapes Go.ChangeAt Go.RowKit
open Go.ChangeMaps (open_string shut_string)
set_option maxRecDepth 100000
theorem stand5 : ([47,3,48].all fun u=>!Tryz.prog.wantsStandIn u)=true:=by kernel_rfl
theorem MoveReplays_holds : Rows.MoveReplaysCardSaid:=
 Claim7.holds_tied_plain_at .later [] [.data,.data,.data,.funcsDeep] true (true, "d069a4c99b5968b22d28cac5c5c755306057ef9b993700109f48ee8aa45049f1") true
  over5 (fun _ h=>by cases h) byText5 (fun _ h=>by cases h) moveReplays_row_tie rfl ⟨rfl,rfl⟩ mainIs0 rfl
  (fun f fn hf hfn=>by
   obtain rfl:f=5:=Option.some.inj (yI.symm.trans hf) |>.symm
   obtain rfl:fn=Tryz.f5:=(Option.some.inj (Tryz.func5.symm.trans hfn)).symm
   exact ⟨looks0,fun j t ht=>by
    rw [Tryz.params5] at ht
    have hm:t∈[47,3,48]:=by simpa using Array.mem_of_getElem? ht
    exact (show Tryz.prog.wantsStandIn t=false by simpa using List.all_eq_true.1 stand5 t hm)⟩)
  goes5
#print axioms MoveReplays_holds
end Go.Proofs.YtcbabnbiinkafaaGreatDoor
end
