/- MovePossible returns true for every input and never panics: the events that are possible at a time are those of the reference, or the same error, and Apply accepts each of them; conditions: those of the given statement. -/
import Derived.Test.YtcbabnbiinkafaaGreatDoorMovePossible8
set_option linter.all false
section
open Go Go.Am
open Go.Am.Dat (cells)
namespace Go.Proofs.YtcbabnbiinkafaaGreatDoor
open Go.ChangeShapes Go.WideShapes Go.ChangeAt Go.RowKit
open Go.ChangeMaps (open_string shut_string)
set_option maxRecDepth 100000
theorem stand16 : ([47,53,3].all fun u=>!Tryz.prog.wantsStandIn u)=true:=by kernel_rfl
theorem MovePossible_holds : Rows.MovePossibleCardSaid:=
 Claim7.holds_tied_plain_at .later [] [.data,.data,.data,.funcsDeep] true (true, "d069a4c99b5968b22d28cac5c5c755306057ef9b993700109f48ee8aa45049f1") true
  over16 (fun _ h=>by cases h) Ct (fun _ h=>by cases h) movePossible_row_tie rfl ⟨rfl,rfl⟩ mainIs0 rfl
  (fun f fn hf hfn=>by
   obtain rfl:f=16:=Option.some.inj (BQ.symm.trans hf) |>.symm
   obtain rfl:fn=Tryz.f16:=(Option.some.inj (Tryz.func16.symm.trans hfn)).symm
   exact⟨looks0,fun j t ht=>by
    rw[Tryz.params16]at ht;have hm:t∈[47,53,3]:=by simpa using Array.mem_of_getElem? ht
    exact (show Tryz.prog.wantsStandIn t=false by simpa using zx.1 stand16 t hm)⟩)
  goes16
#print axioms MovePossible_holds
end Go.Proofs.YtcbabnbiinkafaaGreatDoor
end
