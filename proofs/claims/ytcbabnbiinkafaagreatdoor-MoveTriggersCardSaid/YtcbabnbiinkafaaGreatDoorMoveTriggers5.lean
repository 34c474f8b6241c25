/- MoveTriggers returns true for every input and never panics: what is measured triggers as the reference says; conditions: those of the given statement, that the package variables it lists hold what their initialisers lay. -/
import Derived.Test.YtcbabnbiinkafaaGreatDoorMoveTriggers4
set_option linter.all false
section
open Go Go.Am
open Go.Am.Dat (cells)
namespace Go.Proofs.YtcbabnbiinkafaaGreatDoor
open Go.ChangeShapes Go.WideShapes Go.ChangeAt Go.RowKit
open Go.ChangeMaps (open_string shut_string)
set_option maxRecDepth 100000
theorem stand3 : ([23, 24, 24].all fun u => !Tryz.prog.wantsStandIn u) = true := by kernel_rfl
theorem MoveTriggers_holds : Rows.MoveTriggersCardSaid :=
 Claim7.holds_tied_plain_at .later [] [.data, .data, .data, .funcsDeep] true (true, "d069a4c99b5968b22d28cac5c5c755306057ef9b993700109f48ee8aa45049f1") true
  over3 (fun _ h => by cases h) byText3 (fun _ h => by cases h) moveTriggers_row_tie rfl ⟨rfl, rfl⟩ mainIs0 rfl
  (fun f fn hf hfn => by
   obtain rfl : f = 3 := Option.some.inj (xb.symm.trans hf) |>.symm
   obtain rfl : fn = Tryz.f3 := (Option.some.inj (Tryz.func3.symm.trans hfn)).symm
   exact ⟨looks0, fun j t ht => by
    rw [Tryz.params3] at ht
    have hm : t ∈ [23, 24, 24] := by simpa using Array.mem_of_getElem? ht
    exact (show Tryz.prog.wantsStandIn t = false by simpa using List.all_eq_true.1 stand3 t hm)⟩)
  goes3
#print axioms MoveTriggers_holds
end Go.Proofs.YtcbabnbiinkafaaGreatDoor
end
