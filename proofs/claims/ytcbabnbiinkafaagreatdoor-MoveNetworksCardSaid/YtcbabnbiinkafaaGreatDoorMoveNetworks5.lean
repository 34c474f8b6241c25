/- MoveNetworks returns true for every input and never panics: the answer to a cell of a network, the network's own checks and the state's beginning, are as the reference says; conditions: those of the given statement, that the package variables it lists hold what their initialisers lay. -/
import Derived.Test.YtcbabnbiinkafaaGreatDoorMoveNetworks4
set_option linter.all false
section
open Go Go.Am
open Go.Am.Dat (cells)
namespace Go.Proofs.YtcbabnbiinkafaaGreatDoor
open Go.ChangeShapes Go.WideShapes Go.ChangeAt Go.RowKit
open Go.ChangeMaps (open_string shut_string)
set_option maxRecDepth 100000
theorem stand7 : ([47, 3].all fun u => !Tryz.prog.wantsStandIn u) = true := by kernel_rfl
theorem MoveNetworks_holds : Rows.MoveNetworksCardSaid :=
 Claim7.holds_tied_plain_at .later [] [.data, .data, .data, .funcsDeep] true (true, "d069a4c99b5968b22d28cac5c5c755306057ef9b993700109f48ee8aa45049f1") true
  over7 (fun _ h => by cases h) byText7 (fun _ h => by cases h) moveNetworks_row_tie rfl ⟨rfl, rfl⟩ mainIs0 rfl
  (fun f fn hf hfn => by
   obtain rfl : f = 7 := Option.some.inj (wX.symm.trans hf) |>.symm
   obtain rfl : fn = Tryz.f7 := (Option.some.inj (Tryz.func7.symm.trans hfn)).symm
   exact ⟨looks0, fun j t ht => by
    rw [Tryz.params7] at ht
    have hm : t ∈ [47, 3] := by simpa using Array.mem_of_getElem? ht
    exact (show Tryz.prog.wantsStandIn t = false by simpa using List.all_eq_true.1 stand7 t hm)⟩)
  goes7
#print axioms MoveNetworks_holds
end Go.Proofs.YtcbabnbiinkafaaGreatDoor
end
