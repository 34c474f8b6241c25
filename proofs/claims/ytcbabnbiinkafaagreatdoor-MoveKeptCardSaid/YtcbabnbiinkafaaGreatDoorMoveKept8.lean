/- MoveKept returns true for every input and never panics: behind an event every packet not yet received stands in one cell and in one only, and the state is right; conditions: those of the given statement, that the package variables it lists hold what their initialisers lay. -/
import Derived.Test.YtcbabnbiinkafaaGreatDoorMoveKept7
set_option linter.all false
section
open Go Go.Am
open Go.Am.Dat (cells)
namespace Go.Proofs.YtcbabnbiinkafaaGreatDoor
open Go.ChangeShapes Go.WideShapes Go.ChangeAt Go.RowKit
open Go.ChangeMaps (open_string shut_string)
set_option maxRecDepth 100000
theorem stand15 : ([47,53,83].all fun u=>!Tryz.prog.wantsStandIn u)=true:=by kernel_rfl
theorem MoveKept_holds : Rows.MoveKeptCardSaid:=
 Claim7.holds_tied_plain_at .later [] [.data,.data,.data,.funcsDeep] true (true, "d069a4c99b5968b22d28cac5c5c755306057ef9b993700109f48ee8aa45049f1") true
  over15 (fun _ h=>by cases h) Bz (fun _ h=>by cases h) moveKept_row_tie rfl ⟨rfl,rfl⟩ mainIs0 rfl
  (fun f fn hf hfn=>by
   obtain rfl:f=15:=Option.some.inj (AY.symm.trans hf) |>.symm
   obtain rfl:fn=Tryz.f15:=(Option.some.inj (Tryz.func15.symm.trans hfn)).symm
   exact⟨looks0,fun j t ht=>by
    rw[Tryz.params15]at ht;have hm:t∈[47,53,83]:=by simpa using Array.mem_of_getElem? ht
    exact (show Tryz.prog.wantsStandIn t=false by simpa using zx.1 stand15 t hm)⟩)
  goes15
#print axioms MoveKept_holds
end Go.Proofs.YtcbabnbiinkafaaGreatDoor
end
