/-
  No cell of these rows narrows 'for every input' (looked for: loops, veiled, ifaces, maps, wideKeys, modest, calm, conditions, laid).
  DERIVED. THE GIVEN ROWS OF THIS SEAT. 12 by the template 'for every input the law returns true; each argument reads behind the call as it read before'; 0 by the template 'total and deterministic' (their statements: YtfgpbmjmoobcnaaTotals.lean).
  GIVEN WITH THE SEED: the statements are not yours to turn. If you find one false, say at which input.
  Laid BY PROGRAM, IN A SANDBOX (cutbox-rows.mjs): the forced cells as the released guide's own fill.sh prints them over the translation 7dace48fabe80e70… (all of the seat's roots in one cut). By AI agents, Wed Nov 11 2026. No macro, syntax, notation, axiom, sorry.
-/
import Derived.Test.YtfgpbmjmoobcnaaChecked
import GoSem.Claim
import GoSem.ClaimJoined
import GoSem.ClaimMapViews
import Derived.JoinedTies
import Derived.KernelRfl
namespace Go.Proofs.Ytfgpbmjmoobcnaa
/- THE CELL 'sum', in the pinned program and in every row, IS THE sha256 OF THE DUMP (.gsa) THAT YtfgpbmjmoobcnaaProg.lean LOADS. Nothing in Lean hashes anything: it is a label: what it is worth is what the hold of that sum in a sandbox is worth. -/
noncomputable def Try.pinned : Pinned := { name := "ytfgpbmjmoobcnaa", sum := "7dace48fabe80e70df81635687c24bc01d667e00b5fc687440bce6f4544da831", checked := Try.checked }
namespace Rows
def none {H : Type} : Left H := { results := [], args := [] }

/-- 'downtiltlaw03.SymbolEqualizes': WHATEVER THE INPUT: true; the input reads as it did. -/
def symbolEqualizesSpec : ChangeSpec := { name := "symbolEqualizes", fn := fun _ => fun
  | [d1, d2] => { results := [.lit (.bool true)], args := [d1, d2] }
  | _ => none }
def symbolEqualizesRow : OpenClaim := { program := "ytfgpbmjmoobcnaa", sum := "7dace48fabe80e70df81635687c24bc01d667e00b5fc687440bce6f4544da831", func := "downtilt/downtiltlaw03.SymbolEqualizes", spec := "symbolEqualizes", unfollowed := true, recurses := true, apart := false }
def SymbolEqualizesSaid : Prop := symbolEqualizesRow.holds Try.pinned (OpenSpec.ofChange symbolEqualizesSpec)

/-- ITS FALSE NEIGHBOUR: 'it returns false'. Refute it at one input. -/
def symbolEqualizesWrong : ChangeSpec := { name := "symbolEqualizes", fn := fun _ => fun
  | [d1, d2] => { results := [.lit (.bool false)], args := [d1, d2] }
  | _ => none }
def SymbolEqualizesWrongFalsely : Prop := symbolEqualizesRow.holds Try.pinned (OpenSpec.ofChange symbolEqualizesWrong)

/-- 'downtiltlaw03.SymbolPoints': WHATEVER THE INPUT: true; the input reads as it did. -/
def symbolPointsSpec : ChangeSpec := { name := "symbolPoints", fn := fun _ => fun
  | [d1, d2] => { results := [.lit (.bool true)], args := [d1, d2] }
  | _ => none }
def symbolPointsRow : OpenClaim := { program := "ytfgpbmjmoobcnaa", sum := "7dace48fabe80e70df81635687c24bc01d667e00b5fc687440bce6f4544da831", func := "downtilt/downtiltlaw03.SymbolPoints", spec := "symbolPoints", unfollowed := true, recurses := true, apart := false }
def SymbolPointsSaid : Prop := symbolPointsRow.holds Try.pinned (OpenSpec.ofChange symbolPointsSpec)

/-- ITS FALSE NEIGHBOUR: 'it returns false'. Refute it at one input. -/
def symbolPointsWrong : ChangeSpec := { name := "symbolPoints", fn := fun _ => fun
  | [d1, d2] => { results := [.lit (.bool false)], args := [d1, d2] }
  | _ => none }
def SymbolPointsWrongFalsely : Prop := symbolPointsRow.holds Try.pinned (OpenSpec.ofChange symbolPointsWrong)

/-- 'downtiltlaw03.SymbolGray': WHATEVER THE INPUT: true; the input reads as it did. -/
def symbolGraySpec : ChangeSpec := { name := "symbolGray", fn := fun _ => fun
  | [d1, d2, d3] => { results := [.lit (.bool true)], args := [d1, d2, d3] }
  | _ => none }
def symbolGrayRow : OpenClaim := { program := "ytfgpbmjmoobcnaa", sum := "7dace48fabe80e70df81635687c24bc01d667e00b5fc687440bce6f4544da831", func := "downtilt/downtiltlaw03.SymbolGray", spec := "symbolGray", unfollowed := true, recurses := true, apart := false }
def SymbolGraySaid : Prop := symbolGrayRow.holds Try.pinned (OpenSpec.ofChange symbolGraySpec)

/-- ITS FALSE NEIGHBOUR: 'it returns false'. Refute it at one input. -/
def symbolGrayWrong : ChangeSpec := { name := "symbolGray", fn := fun _ => fun
  | [d1, d2, d3] => { results := [.lit (.bool false)], args := [d1, d2, d3] }
  | _ => none }
def SymbolGrayWrongFalsely : Prop := symbolGrayRow.holds Try.pinned (OpenSpec.ofChange symbolGrayWrong)

/-- 'downtiltlaw03.SymbolLevels': WHATEVER THE INPUT: true; the input reads as it did. -/
def symbolLevelsSpec : ChangeSpec := { name := "symbolLevels", fn := fun _ => fun
  | [d1, d2, d3] => { results := [.lit (.bool true)], args := [d1, d2, d3] }
  | _ => none }
def symbolLevelsRow : OpenClaim := { program := "ytfgpbmjmoobcnaa", sum := "7dace48fabe80e70df81635687c24bc01d667e00b5fc687440bce6f4544da831", func := "downtilt/downtiltlaw03.SymbolLevels", spec := "symbolLevels", unfollowed := true, recurses := true, apart := false }
def SymbolLevelsSaid : Prop := symbolLevelsRow.holds Try.pinned (OpenSpec.ofChange symbolLevelsSpec)

/-- ITS FALSE NEIGHBOUR: 'it returns false'. Refute it at one input. -/
def symbolLevelsWrong : ChangeSpec := { name := "symbolLevels", fn := fun _ => fun
  | [d1, d2, d3] => { results := [.lit (.bool false)], args := [d1, d2, d3] }
  | _ => none }
def SymbolLevelsWrongFalsely : Prop := symbolLevelsRow.holds Try.pinned (OpenSpec.ofChange symbolLevelsWrong)

/-- 'downtiltlaw03.SymbolScrambles': WHATEVER THE INPUT: true; the input reads as it did. -/
def symbolScramblesSpec : ChangeSpec := { name := "symbolScrambles", fn := fun _ => fun
  | [d1, d2] => { results := [.lit (.bool true)], args := [d1, d2] }
  | _ => none }
def symbolScramblesRow : OpenClaim := { program := "ytfgpbmjmoobcnaa", sum := "7dace48fabe80e70df81635687c24bc01d667e00b5fc687440bce6f4544da831", func := "downtilt/downtiltlaw03.SymbolScrambles", spec := "symbolScrambles", unfollowed := true, recurses := true, apart := false }
def SymbolScramblesSaid : Prop := symbolScramblesRow.holds Try.pinned (OpenSpec.ofChange symbolScramblesSpec)

/-- ITS FALSE NEIGHBOUR: 'it returns false'. Refute it at one input. -/
def symbolScramblesWrong : ChangeSpec := { name := "symbolScrambles", fn := fun _ => fun
  | [d1, d2] => { results := [.lit (.bool false)], args := [d1, d2] }
  | _ => none }
def SymbolScramblesWrongFalsely : Prop := symbolScramblesRow.holds Try.pinned (OpenSpec.ofChange symbolScramblesWrong)

/-- 'downtiltlaw03.SymbolMatrices': WHATEVER THE INPUT: true; the input reads as it did. -/
def symbolMatricesSpec : ChangeSpec := { name := "symbolMatrices", fn := fun _ => fun
  | [d1, d2, d3] => { results := [.lit (.bool true)], args := [d1, d2, d3] }
  | _ => none }
def symbolMatricesRow : OpenClaim := { program := "ytfgpbmjmoobcnaa", sum := "7dace48fabe80e70df81635687c24bc01d667e00b5fc687440bce6f4544da831", func := "downtilt/downtiltlaw03.SymbolMatrices", spec := "symbolMatrices", unfollowed := true, recurses := true, apart := false }
def SymbolMatricesSaid : Prop := symbolMatricesRow.holds Try.pinned (OpenSpec.ofChange symbolMatricesSpec)

/-- ITS FALSE NEIGHBOUR: 'it returns false'. Refute it at one input. -/
def symbolMatricesWrong : ChangeSpec := { name := "symbolMatrices", fn := fun _ => fun
  | [d1, d2, d3] => { results := [.lit (.bool false)], args := [d1, d2, d3] }
  | _ => none }
def SymbolMatricesWrongFalsely : Prop := symbolMatricesRow.holds Try.pinned (OpenSpec.ofChange symbolMatricesWrong)

/-- 'downtiltlaw03.SymbolTakenOff': WHATEVER THE INPUT: true; the input reads as it did. -/
def symbolTakenOffSpec : ChangeSpec := { name := "symbolTakenOff", fn := fun _ => fun
  | [d1, d2, d3] => { results := [.lit (.bool true)], args := [d1, d2, d3] }
  | _ => none }
def symbolTakenOffRow : OpenClaim := { program := "ytfgpbmjmoobcnaa", sum := "7dace48fabe80e70df81635687c24bc01d667e00b5fc687440bce6f4544da831", func := "downtilt/downtiltlaw03.SymbolTakenOff", spec := "symbolTakenOff", unfollowed := true, recurses := true, apart := false }
def SymbolTakenOffSaid : Prop := symbolTakenOffRow.holds Try.pinned (OpenSpec.ofChange symbolTakenOffSpec)

/-- ITS FALSE NEIGHBOUR: 'it returns false'. Refute it at one input. -/
def symbolTakenOffWrong : ChangeSpec := { name := "symbolTakenOff", fn := fun _ => fun
  | [d1, d2, d3] => { results := [.lit (.bool false)], args := [d1, d2, d3] }
  | _ => none }
def SymbolTakenOffWrongFalsely : Prop := symbolTakenOffRow.holds Try.pinned (OpenSpec.ofChange symbolTakenOffWrong)

/-- 'downtiltlaw03.SymbolReceives': WHATEVER THE INPUT: true; the input reads as it did. -/
def symbolReceivesSpec : ChangeSpec := { name := "symbolReceives", fn := fun _ => fun
  | [d1, d2] => { results := [.lit (.bool true)], args := [d1, d2] }
  | _ => none }
def symbolReceivesRow : OpenClaim := { program := "ytfgpbmjmoobcnaa", sum := "7dace48fabe80e70df81635687c24bc01d667e00b5fc687440bce6f4544da831", func := "downtilt/downtiltlaw03.SymbolReceives", spec := "symbolReceives", unfollowed := true, recurses := true, apart := false }
def SymbolReceivesSaid : Prop := symbolReceivesRow.holds Try.pinned (OpenSpec.ofChange symbolReceivesSpec)

/-- ITS FALSE NEIGHBOUR: 'it returns false'. Refute it at one input. -/
def symbolReceivesWrong : ChangeSpec := { name := "symbolReceives", fn := fun _ => fun
  | [d1, d2] => { results := [.lit (.bool false)], args := [d1, d2] }
  | _ => none }
def SymbolReceivesWrongFalsely : Prop := symbolReceivesRow.holds Try.pinned (OpenSpec.ofChange symbolReceivesWrong)

/-- 'downtiltlaw03.SymbolSigns': WHATEVER THE INPUT: true; the input reads as it did. -/
def symbolSignsSpec : ChangeSpec := { name := "symbolSigns", fn := fun _ => fun
  | [d1, d2, d3] => { results := [.lit (.bool true)], args := [d1, d2, d3] }
  | _ => none }
def symbolSignsRow : OpenClaim := { program := "ytfgpbmjmoobcnaa", sum := "7dace48fabe80e70df81635687c24bc01d667e00b5fc687440bce6f4544da831", func := "downtilt/downtiltlaw03.SymbolSigns", spec := "symbolSigns", unfollowed := true, recurses := true, apart := false }
def SymbolSignsSaid : Prop := symbolSignsRow.holds Try.pinned (OpenSpec.ofChange symbolSignsSpec)

/-- ITS FALSE NEIGHBOUR: 'it returns false'. Refute it at one input. -/
def symbolSignsWrong : ChangeSpec := { name := "symbolSigns", fn := fun _ => fun
  | [d1, d2, d3] => { results := [.lit (.bool false)], args := [d1, d2, d3] }
  | _ => none }
def SymbolSignsWrongFalsely : Prop := symbolSignsRow.holds Try.pinned (OpenSpec.ofChange symbolSignsWrong)

/-- 'downtiltlaw03.SymbolLayers': WHATEVER THE INPUT: true; the input reads as it did. -/
def symbolLayersSpec : ChangeSpec := { name := "symbolLayers", fn := fun _ => fun
  | [d1, d2, d3] => { results := [.lit (.bool true)], args := [d1, d2, d3] }
  | _ => none }
def symbolLayersRow : OpenClaim := { program := "ytfgpbmjmoobcnaa", sum := "7dace48fabe80e70df81635687c24bc01d667e00b5fc687440bce6f4544da831", func := "downtilt/downtiltlaw03.SymbolLayers", spec := "symbolLayers", unfollowed := true, recurses := true, apart := false }
def SymbolLayersSaid : Prop := symbolLayersRow.holds Try.pinned (OpenSpec.ofChange symbolLayersSpec)

/-- ITS FALSE NEIGHBOUR: 'it returns false'. Refute it at one input. -/
def symbolLayersWrong : ChangeSpec := { name := "symbolLayers", fn := fun _ => fun
  | [d1, d2, d3] => { results := [.lit (.bool false)], args := [d1, d2, d3] }
  | _ => none }
def SymbolLayersWrongFalsely : Prop := symbolLayersRow.holds Try.pinned (OpenSpec.ofChange symbolLayersWrong)

/-- 'downtiltlaw03.SymbolRegisters': WHATEVER THE INPUT: true; the input reads as it did. -/
def symbolRegistersSpec : ChangeSpec := { name := "symbolRegisters", fn := fun _ => fun
  | [d1, d2, d3] => { results := [.lit (.bool true)], args := [d1, d2, d3] }
  | _ => none }
def symbolRegistersRow : OpenClaim := { program := "ytfgpbmjmoobcnaa", sum := "7dace48fabe80e70df81635687c24bc01d667e00b5fc687440bce6f4544da831", func := "downtilt/downtiltlaw03.SymbolRegisters", spec := "symbolRegisters", unfollowed := true, recurses := true, apart := false }
def SymbolRegistersSaid : Prop := symbolRegistersRow.holds Try.pinned (OpenSpec.ofChange symbolRegistersSpec)

/-- ITS FALSE NEIGHBOUR: 'it returns false'. Refute it at one input. -/
def symbolRegistersWrong : ChangeSpec := { name := "symbolRegisters", fn := fun _ => fun
  | [d1, d2, d3] => { results := [.lit (.bool false)], args := [d1, d2, d3] }
  | _ => none }
def SymbolRegistersWrongFalsely : Prop := symbolRegistersRow.holds Try.pinned (OpenSpec.ofChange symbolRegistersWrong)

/-- 'downtiltlaw03.SymbolPeriods': WHATEVER THE INPUT: true; the input reads as it did. -/
def symbolPeriodsSpec : ChangeSpec := { name := "symbolPeriods", fn := fun _ => fun
  | [d1, d2, d3] => { results := [.lit (.bool true)], args := [d1, d2, d3] }
  | _ => none }
def symbolPeriodsRow : OpenClaim := { program := "ytfgpbmjmoobcnaa", sum := "7dace48fabe80e70df81635687c24bc01d667e00b5fc687440bce6f4544da831", func := "downtilt/downtiltlaw03.SymbolPeriods", spec := "symbolPeriods", unfollowed := true, recurses := true, apart := false }
def SymbolPeriodsSaid : Prop := symbolPeriodsRow.holds Try.pinned (OpenSpec.ofChange symbolPeriodsSpec)

/-- ITS FALSE NEIGHBOUR: 'it returns false'. Refute it at one input. -/
def symbolPeriodsWrong : ChangeSpec := { name := "symbolPeriods", fn := fun _ => fun
  | [d1, d2, d3] => { results := [.lit (.bool false)], args := [d1, d2, d3] }
  | _ => none }
def SymbolPeriodsWrongFalsely : Prop := symbolPeriodsRow.holds Try.pinned (OpenSpec.ofChange symbolPeriodsWrong)

/- THE SECOND FORM. 'bulk': how many values and letters a reading holds, each counted each time it is reached (what is shared counts as often as it is met; a slice's spare places count too). A statement '..UptoSaid' is the law's where the arguments, and the package variables that the reading takes, are together of bulk at most 1048576: NARROWER than '..Said'. Prove '..Said' where nothing that the law and all that it calls make is longer than what came in: it says more and counts as full. Else prove '..UptoSaid'. A law counts once. -/
mutual
def uptoBulk {H : Type} : DataW H → Nat
  | .lit (.string bytes) => bytes.length + 1
  | .lit _ => 1
  | .nil => 1
  | .ptr d => uptoBulk d + 1
  | .slice elems spare => uptoBulkAll elems + uptoBulkAll spare + 1
  | .agg parts => uptoBulkAll parts + 1
  | .iface _ d => uptoBulk d + 1
  | .map entries => uptoBulkEntries entries + 1
  | .held _ => 1
def uptoBulkAll {H : Type} : List (DataW H) → Nat
  | [] => 0
  | d :: r => uptoBulk d + uptoBulkAll r
def uptoBulkEntries {H : Type} : List (Lit × DataW H) → Nat
  | [] => 0
  | x :: r => uptoBulkEntry x + uptoBulkEntries r
def uptoBulkEntry {H : Type} : Lit × DataW H → Nat
  | (.string bytes, d) => bytes.length + uptoBulk d + 1
  | (_, d) => uptoBulk d + 1
 end
def uptoSmall : (H : Type) → List (DataW H) → Bool := fun _ ds => decide (uptoBulkAll ds ≤ 1048576)
def OpenSpec.upto (s : _root_.Go.ChangeSpec) : _root_.Go.OpenSpec := { _root_.Go.OpenSpec.ofChange s with cond := some uptoSmall }

/-- 'downtiltlaw03.SymbolEqualizes', WHERE WHAT IT READS IS OF BULK AT MOST 1048576: true; the input reads as it did. -/
def symbolEqualizesUptoRow : OpenClaim := { program := "ytfgpbmjmoobcnaa", sum := "7dace48fabe80e70df81635687c24bc01d667e00b5fc687440bce6f4544da831", func := "downtilt/downtiltlaw03.SymbolEqualizes", spec := "symbolEqualizes", unfollowed := true, recurses := true, apart := false, narrowed := true }
def SymbolEqualizesUptoSaid : Prop := symbolEqualizesUptoRow.holds Try.pinned (OpenSpec.upto symbolEqualizesSpec)

/-- 'downtiltlaw03.SymbolPoints', WHERE WHAT IT READS IS OF BULK AT MOST 1048576: true; the input reads as it did. -/
def symbolPointsUptoRow : OpenClaim := { program := "ytfgpbmjmoobcnaa", sum := "7dace48fabe80e70df81635687c24bc01d667e00b5fc687440bce6f4544da831", func := "downtilt/downtiltlaw03.SymbolPoints", spec := "symbolPoints", unfollowed := true, recurses := true, apart := false, narrowed := true }
def SymbolPointsUptoSaid : Prop := symbolPointsUptoRow.holds Try.pinned (OpenSpec.upto symbolPointsSpec)

/-- 'downtiltlaw03.SymbolGray', WHERE WHAT IT READS IS OF BULK AT MOST 1048576: true; the input reads as it did. -/
def symbolGrayUptoRow : OpenClaim := { program := "ytfgpbmjmoobcnaa", sum := "7dace48fabe80e70df81635687c24bc01d667e00b5fc687440bce6f4544da831", func := "downtilt/downtiltlaw03.SymbolGray", spec := "symbolGray", unfollowed := true, recurses := true, apart := false, narrowed := true }
def SymbolGrayUptoSaid : Prop := symbolGrayUptoRow.holds Try.pinned (OpenSpec.upto symbolGraySpec)

/-- 'downtiltlaw03.SymbolLevels', WHERE WHAT IT READS IS OF BULK AT MOST 1048576: true; the input reads as it did. -/
def symbolLevelsUptoRow : OpenClaim := { program := "ytfgpbmjmoobcnaa", sum := "7dace48fabe80e70df81635687c24bc01d667e00b5fc687440bce6f4544da831", func := "downtilt/downtiltlaw03.SymbolLevels", spec := "symbolLevels", unfollowed := true, recurses := true, apart := false, narrowed := true }
def SymbolLevelsUptoSaid : Prop := symbolLevelsUptoRow.holds Try.pinned (OpenSpec.upto symbolLevelsSpec)

/-- 'downtiltlaw03.SymbolScrambles', WHERE WHAT IT READS IS OF BULK AT MOST 1048576: true; the input reads as it did. -/
def symbolScramblesUptoRow : OpenClaim := { program := "ytfgpbmjmoobcnaa", sum := "7dace48fabe80e70df81635687c24bc01d667e00b5fc687440bce6f4544da831", func := "downtilt/downtiltlaw03.SymbolScrambles", spec := "symbolScrambles", unfollowed := true, recurses := true, apart := false, narrowed := true }
def SymbolScramblesUptoSaid : Prop := symbolScramblesUptoRow.holds Try.pinned (OpenSpec.upto symbolScramblesSpec)

/-- 'downtiltlaw03.SymbolMatrices', WHERE WHAT IT READS IS OF BULK AT MOST 1048576: true; the input reads as it did. -/
def symbolMatricesUptoRow : OpenClaim := { program := "ytfgpbmjmoobcnaa", sum := "7dace48fabe80e70df81635687c24bc01d667e00b5fc687440bce6f4544da831", func := "downtilt/downtiltlaw03.SymbolMatrices", spec := "symbolMatrices", unfollowed := true, recurses := true, apart := false, narrowed := true }
def SymbolMatricesUptoSaid : Prop := symbolMatricesUptoRow.holds Try.pinned (OpenSpec.upto symbolMatricesSpec)

/-- 'downtiltlaw03.SymbolTakenOff', WHERE WHAT IT READS IS OF BULK AT MOST 1048576: true; the input reads as it did. -/
def symbolTakenOffUptoRow : OpenClaim := { program := "ytfgpbmjmoobcnaa", sum := "7dace48fabe80e70df81635687c24bc01d667e00b5fc687440bce6f4544da831", func := "downtilt/downtiltlaw03.SymbolTakenOff", spec := "symbolTakenOff", unfollowed := true, recurses := true, apart := false, narrowed := true }
def SymbolTakenOffUptoSaid : Prop := symbolTakenOffUptoRow.holds Try.pinned (OpenSpec.upto symbolTakenOffSpec)

/-- 'downtiltlaw03.SymbolReceives', WHERE WHAT IT READS IS OF BULK AT MOST 1048576: true; the input reads as it did. -/
def symbolReceivesUptoRow : OpenClaim := { program := "ytfgpbmjmoobcnaa", sum := "7dace48fabe80e70df81635687c24bc01d667e00b5fc687440bce6f4544da831", func := "downtilt/downtiltlaw03.SymbolReceives", spec := "symbolReceives", unfollowed := true, recurses := true, apart := false, narrowed := true }
def SymbolReceivesUptoSaid : Prop := symbolReceivesUptoRow.holds Try.pinned (OpenSpec.upto symbolReceivesSpec)

/-- 'downtiltlaw03.SymbolSigns', WHERE WHAT IT READS IS OF BULK AT MOST 1048576: true; the input reads as it did. -/
def symbolSignsUptoRow : OpenClaim := { program := "ytfgpbmjmoobcnaa", sum := "7dace48fabe80e70df81635687c24bc01d667e00b5fc687440bce6f4544da831", func := "downtilt/downtiltlaw03.SymbolSigns", spec := "symbolSigns", unfollowed := true, recurses := true, apart := false, narrowed := true }
def SymbolSignsUptoSaid : Prop := symbolSignsUptoRow.holds Try.pinned (OpenSpec.upto symbolSignsSpec)

/-- 'downtiltlaw03.SymbolLayers', WHERE WHAT IT READS IS OF BULK AT MOST 1048576: true; the input reads as it did. -/
def symbolLayersUptoRow : OpenClaim := { program := "ytfgpbmjmoobcnaa", sum := "7dace48fabe80e70df81635687c24bc01d667e00b5fc687440bce6f4544da831", func := "downtilt/downtiltlaw03.SymbolLayers", spec := "symbolLayers", unfollowed := true, recurses := true, apart := false, narrowed := true }
def SymbolLayersUptoSaid : Prop := symbolLayersUptoRow.holds Try.pinned (OpenSpec.upto symbolLayersSpec)

/-- 'downtiltlaw03.SymbolRegisters', WHERE WHAT IT READS IS OF BULK AT MOST 1048576: true; the input reads as it did. -/
def symbolRegistersUptoRow : OpenClaim := { program := "ytfgpbmjmoobcnaa", sum := "7dace48fabe80e70df81635687c24bc01d667e00b5fc687440bce6f4544da831", func := "downtilt/downtiltlaw03.SymbolRegisters", spec := "symbolRegisters", unfollowed := true, recurses := true, apart := false, narrowed := true }
def SymbolRegistersUptoSaid : Prop := symbolRegistersUptoRow.holds Try.pinned (OpenSpec.upto symbolRegistersSpec)

/-- 'downtiltlaw03.SymbolPeriods', WHERE WHAT IT READS IS OF BULK AT MOST 1048576: true; the input reads as it did. -/
def symbolPeriodsUptoRow : OpenClaim := { program := "ytfgpbmjmoobcnaa", sum := "7dace48fabe80e70df81635687c24bc01d667e00b5fc687440bce6f4544da831", func := "downtilt/downtiltlaw03.SymbolPeriods", spec := "symbolPeriods", unfollowed := true, recurses := true, apart := false, narrowed := true }
def SymbolPeriodsUptoSaid : Prop := symbolPeriodsUptoRow.holds Try.pinned (OpenSpec.upto symbolPeriodsSpec)

end Rows
end Go.Proofs.Ytfgpbmjmoobcnaa
