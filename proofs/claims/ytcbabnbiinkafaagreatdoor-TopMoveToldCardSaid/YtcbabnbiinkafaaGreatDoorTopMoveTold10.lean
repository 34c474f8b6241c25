/- TopMoveTold returns true for every input and never panics: a right log told in texts, and in two halves with the state told between them, gives the same state, and what is possible there is the same and not nothing; conditions: those of the given statement, that the package variables it lists hold what their initialisers lay. -/
import Derived.Test.YtcbabnbiinkafaaGreatDoorTopMoveTold9
set_option linter.all false
set_option maxHeartbeats 8000000
set_option maxRecDepth 100000
section
open Go Go.Am
open Go.Am.Dat (cells)
namespace Go.Proofs.YtcbabnbiinkafaaGreatDoor
open Go.ChangeShapes Go.WideShapes Go.ChangeAt Go.RowKit
open Go.ChangeMaps (open_string shut_string)
theorem stand20 : ([47,3,48].all fun u=>!Tryz.prog.wantsStandIn u)=true:=by kernel_rfl
theorem TopMoveTold_holds : Rows.TopMoveToldCardSaid:=
 Claim7.holds_tied_plain_at .later [] [.data,.data,.data,.data,.sentinel,.sentinel,.funcsDeep,.pinned] true (true, "d069a4c99b5968b22d28cac5c5c755306057ef9b993700109f48ee8aa45049f1") true
  over20 (fun _ h=>by cases h) EV (fun _ h=>by cases h) topMoveTold_row_tie rfl ⟨rfl,rfl⟩ mainIs0 rfl
  (fun f fn hf hfn=>by
   obtain rfl:f=20:=Option.some.inj (Dr.symm.trans hf) |>.symm
   obtain rfl:fn=Tryz.f20:=(Option.some.inj (Tryz.func20.symm.trans hfn)).symm
   exact⟨looks0,fun j t ht=>by
    rw[Tryz.params20]at ht;have hm:t∈[47,3,48]:=by simpa using Array.mem_of_getElem? ht
    exact (show Tryz.prog.wantsStandIn t=false by simpa using zx.1 stand20 t hm)⟩)
  goes20
#print axioms TopMoveTold_holds
end Go.Proofs.YtcbabnbiinkafaaGreatDoor
end
