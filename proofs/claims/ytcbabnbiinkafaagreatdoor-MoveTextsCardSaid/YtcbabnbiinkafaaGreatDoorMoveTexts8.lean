/- MoveTexts returns true for every input and never panics: the texts of an event and of a state, and the event and the state with any text, are as specified, or the errors, and right ones are read back; conditions: those of the given statement, that the package variables it lists hold what their initialisers lay. -/
import Derived.Test.YtcbabnbiinkafaaGreatDoorMoveTexts7
set_option linter.all false
section
open Go Go.Am
open Go.Am.Dat (cells)
namespace Go.Proofs.YtcbabnbiinkafaaGreatDoor
open Go.ChangeShapes Go.WideShapes Go.ChangeAt Go.RowKit
open Go.ChangeMaps (open_string shut_string)
set_option maxRecDepth 100000
theorem stand17 : ([47,53,124].all fun u=>!Tryz.prog.wantsStandIn u)=true:=by kernel_rfl
theorem MoveTexts_holds : Rows.MoveTextsCardSaid:=
 Claim7.holds_tied_plain_at .later [] [.data,.data,.data,.data,.sentinel,.sentinel,.funcsDeep,.pinned] true (true, "d069a4c99b5968b22d28cac5c5c755306057ef9b993700109f48ee8aa45049f1") true
  over17 (fun _ h=>by cases h) Dn (fun _ h=>by cases h) moveTexts_row_tie rfl ⟨rfl,rfl⟩ mainIs0 rfl
  (fun f fn hf hfn=>by
   obtain rfl:f=17:=Option.some.inj (Cy.symm.trans hf) |>.symm
   obtain rfl:fn=Tryz.f17:=(Option.some.inj (Tryz.func17.symm.trans hfn)).symm
   exact⟨looks0,fun j t ht=>by
    rw[Tryz.params17]at ht;have hm:t∈[47,53,124]:=by simpa using Array.mem_of_getElem? ht
    exact (show Tryz.prog.wantsStandIn t=false by simpa using zx.1 stand17 t hm)⟩)
  goes17
#print axioms MoveTexts_holds
end Go.Proofs.YtcbabnbiinkafaaGreatDoor
end
