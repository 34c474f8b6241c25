/- MoveLater returns true for every input and never panics: a rule that is harder to meet never triggers earlier; conditions: those of the given statement, that the package variables it lists hold what their initialisers lay. -/
import Derived.Test.YtcbabnbiinkafaaGreatDoorMoveLater4
set_option linter.all false
section
open Go Go.Am
open Go.Am.Dat (cells)
namespace Go.Proofs.YtcbabnbiinkafaaGreatDoor
open Go.ChangeShapes Go.WideShapes Go.ChangeAt Go.RowKit
open Go.ChangeMaps (open_string shut_string)
set_option maxRecDepth 100000
theorem stand4 : ([23, 39, 40].all fun u => !Tryz.prog.wantsStandIn u) = true := by kernel_rfl
theorem MoveLater_holds : Rows.MoveLaterCardSaid :=
 Claim7.holds_tied_plain_at .later [] [.data, .data, .data, .funcsDeep] true (true, "d069a4c99b5968b22d28cac5c5c755306057ef9b993700109f48ee8aa45049f1") true
  over4 (fun _ h => by cases h) byText4 (fun _ h => by cases h) moveLater_row_tie rfl ⟨rfl, rfl⟩ mainIs0 rfl
  (fun f fn hf hfn => by
   obtain rfl : f = 4 := Option.some.inj (xg.symm.trans hf) |>.symm
   obtain rfl : fn = Tryz.f4 := (Option.some.inj (Tryz.func4.symm.trans hfn)).symm
   exact ⟨looks0, fun j t ht => by
    rw [Tryz.params4] at ht
    have hm : t ∈ [23, 39, 40] := by simpa using Array.mem_of_getElem? ht
    exact (show Tryz.prog.wantsStandIn t = false by simpa using List.all_eq_true.1 stand4 t hm)⟩)
  goes4
#print axioms MoveLater_holds
end Go.Proofs.YtcbabnbiinkafaaGreatDoor
end
