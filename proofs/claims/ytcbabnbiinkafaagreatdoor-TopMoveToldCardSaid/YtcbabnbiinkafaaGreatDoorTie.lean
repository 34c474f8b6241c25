/-
  DERIVED. GIVEN WITH THE SEED: THE PROGRAM's TIES (one call each: nine closed facts by the kernel) AND EACH ROW's TIE, after the 31st guide's Derived/Test/Toyas{Tie, Card}.lean. No idea stands in it: it is a product of the set-up. Laid BY PROGRAM, IN A SANDBOX (cutbox-door.mjs). By AI agents, Wed Nov 11 2026. No macro, syntax, notation, axiom, sorry.
-/
import Derived.Test.YtcbabnbiinkafaaGreatDoorRows
import Derived.LaidByTextLater
import Derived.SevenTiedAt
import Derived.LaidSub
import Derived.LaidOnce
namespace Go.Proofs.YtcbabnbiinkafaaGreatDoor
open Go
set_option maxRecDepth 100000
theorem seatTie1 : Tryz.prog.laidByTextLater [("math/bits.deBruijn32tab", Rows.laid_math_bits_deBruijn32tab), ("math/bits.deBruijn64tab", Rows.laid_math_bits_deBruijn64tab), ("internal/strconv.uint64pow10", Rows.laid_internal_strconv_uint64pow10), ("unicode/utf8.acceptRanges", Rows.laid_unicode_utf8_acceptRanges), ("strconv.ErrRange", Rows.laid_strconv_ErrRange), ("strconv.ErrSyntax", Rows.laid_strconv_ErrSyntax), ("downtilt/move.kinds", Rows.laid_downtilt_move_kinds)] [.data, .data, .data, .data, .sentinel, .sentinel, .funcsDeep] true :=
  Program.laidByTextLater_by_one 89 8 65 (by kernel_rfl) (by kernel_rfl) (by kernel_rfl) (by kernel_rfl) (by kernel_rfl) (by kernel_rfl) (fun _ _ => by kernel_rfl)
theorem pin_laid_unicode_utf8_first : Tryz.pinned.checked.prog.pinnedFits "unicode/utf8.first" = true := by kernel_rfl
theorem noOwnUnsafe : Tryz.pinned.checked.prog.headLifts.contains "ownunsafe" = false := by kernel_rfl
theorem tie : Tryz.prog.laidByTextLater [("math/bits.deBruijn32tab", Rows.laid_math_bits_deBruijn32tab), ("math/bits.deBruijn64tab", Rows.laid_math_bits_deBruijn64tab), ("internal/strconv.uint64pow10", Rows.laid_internal_strconv_uint64pow10), ("downtilt/move.kinds", Rows.laid_downtilt_move_kinds)] [.data, .data, .data, .funcsDeep] true :=
  Program.laidByTextLater.sub seatTie1 ["math/bits.deBruijn32tab", "math/bits.deBruijn64tab", "internal/strconv.uint64pow10", "downtilt/move.kinds"] (by kernel_rfl) (by kernel_rfl)
theorem moveTriggers_row_tie : Rows.moveTriggersRow.laidByTextAt .later Tryz.pinned [.data, .data, .data, .funcsDeep] true :=
  OpenClaim.laidByTextAt_later rfl rfl tie noOwnUnsafe
theorem moveLater_row_tie : Rows.moveLaterRow.laidByTextAt .later Tryz.pinned [.data, .data, .data, .funcsDeep] true :=
  OpenClaim.laidByTextAt_later rfl rfl tie noOwnUnsafe
theorem moveReplays_row_tie : Rows.moveReplaysRow.laidByTextAt .later Tryz.pinned [.data, .data, .data, .funcsDeep] true :=
  OpenClaim.laidByTextAt_later rfl rfl tie noOwnUnsafe
theorem movePingPongs_row_tie : Rows.movePingPongsRow.laidByTextAt .later Tryz.pinned [.data, .data, .data, .funcsDeep] true :=
  OpenClaim.laidByTextAt_later rfl rfl tie noOwnUnsafe
theorem moveNetworks_row_tie : Rows.moveNetworksRow.laidByTextAt .later Tryz.pinned [.data, .data, .data, .funcsDeep] true :=
  OpenClaim.laidByTextAt_later rfl rfl tie noOwnUnsafe
theorem moveLess_row_tie : Rows.moveLessRow.laidByTextAt .later Tryz.pinned [.data, .data, .data, .funcsDeep] true :=
  OpenClaim.laidByTextAt_later rfl rfl tie noOwnUnsafe
theorem moveStays_row_tie : Rows.moveStaysRow.laidByTextAt .later Tryz.pinned [.data, .data, .data, .funcsDeep] true :=
  OpenClaim.laidByTextAt_later rfl rfl tie noOwnUnsafe
theorem moveStrongest_row_tie : Rows.moveStrongestRow.laidByTextAt .later Tryz.pinned [.data, .data, .data, .funcsDeep] true :=
  OpenClaim.laidByTextAt_later rfl rfl tie noOwnUnsafe
theorem moveStates_row_tie : Rows.moveStatesRow.laidByTextAt .later Tryz.pinned [.data, .data, .data, .funcsDeep] true :=
  OpenClaim.laidByTextAt_later rfl rfl tie noOwnUnsafe
theorem moveApplies_row_tie : Rows.moveAppliesRow.laidByTextAt .later Tryz.pinned [.data, .data, .data, .funcsDeep] true :=
  OpenClaim.laidByTextAt_later rfl rfl tie noOwnUnsafe
theorem moveOnce_row_tie : Rows.moveOnceRow.laidByTextAt .later Tryz.pinned [.data, .data, .data, .funcsDeep] true :=
  OpenClaim.laidByTextAt_later rfl rfl tie noOwnUnsafe
theorem moveWaits_row_tie : Rows.moveWaitsRow.laidByTextAt .later Tryz.pinned [.data, .data, .data, .funcsDeep] true :=
  OpenClaim.laidByTextAt_later rfl rfl tie noOwnUnsafe
theorem moveKept_row_tie : Rows.moveKeptRow.laidByTextAt .later Tryz.pinned [.data, .data, .data, .funcsDeep] true :=
  OpenClaim.laidByTextAt_later rfl rfl tie noOwnUnsafe
theorem movePossible_row_tie : Rows.movePossibleRow.laidByTextAt .later Tryz.pinned [.data, .data, .data, .funcsDeep] true :=
  OpenClaim.laidByTextAt_later rfl rfl tie noOwnUnsafe
theorem topMoveOnceInOrder_row_tie : Rows.topMoveOnceInOrderRow.laidByTextAt .later Tryz.pinned [.data, .data, .data, .funcsDeep] true :=
  OpenClaim.laidByTextAt_later rfl rfl tie noOwnUnsafe
theorem topMoveConnectedAgain_row_tie : Rows.topMoveConnectedAgainRow.laidByTextAt .later Tryz.pinned [.data, .data, .data, .funcsDeep] true :=
  OpenClaim.laidByTextAt_later rfl rfl tie noOwnUnsafe
theorem fits2 : Tryz.pinned.checked.prog.listedFits [("math/bits.deBruijn32tab", Rows.laid_math_bits_deBruijn32tab), ("math/bits.deBruijn64tab", Rows.laid_math_bits_deBruijn64tab), ("internal/strconv.uint64pow10", Rows.laid_internal_strconv_uint64pow10), ("unicode/utf8.acceptRanges", Rows.laid_unicode_utf8_acceptRanges), ("strconv.ErrRange", Rows.laid_strconv_ErrRange), ("strconv.ErrSyntax", Rows.laid_strconv_ErrSyntax), ("downtilt/move.kinds", Rows.laid_downtilt_move_kinds), ("unicode/utf8.first", Rows.laid_unicode_utf8_first)] = true := by
  unfold Program.listedFits
  rw [noOwnUnsafe]
  kernel_rfl
theorem tie2 : Tryz.prog.laidByTextLater [("math/bits.deBruijn32tab", Rows.laid_math_bits_deBruijn32tab), ("math/bits.deBruijn64tab", Rows.laid_math_bits_deBruijn64tab), ("internal/strconv.uint64pow10", Rows.laid_internal_strconv_uint64pow10), ("unicode/utf8.acceptRanges", Rows.laid_unicode_utf8_acceptRanges), ("strconv.ErrRange", Rows.laid_strconv_ErrRange), ("strconv.ErrSyntax", Rows.laid_strconv_ErrSyntax), ("downtilt/move.kinds", Rows.laid_downtilt_move_kinds)] [.data, .data, .data, .data, .sentinel, .sentinel, .funcsDeep] true :=
  Program.laidByTextLater.sub seatTie1 ["math/bits.deBruijn32tab", "math/bits.deBruijn64tab", "internal/strconv.uint64pow10", "unicode/utf8.acceptRanges", "strconv.ErrRange", "strconv.ErrSyntax", "downtilt/move.kinds"] (by kernel_rfl) (by kernel_rfl)
theorem moveTexts_row_tie : Rows.moveTextsRow.laidByTextAt .later Tryz.pinned [.data, .data, .data, .data, .sentinel, .sentinel, .funcsDeep, .pinned] true :=
  OpenClaim.laidByTextAt_pinned rfl rfl tie2 rfl rfl rfl rfl (fun y hy _e => by
    simp only [Rows.moveTextsRow, List.zip_cons_cons, List.zip_nil_right, List.mem_cons, List.mem_nil_iff, or_false] at hy
    rcases hy with rfl | rfl | rfl | rfl | rfl | rfl | rfl | rfl
    · cases _e
    · cases _e
    · cases _e
    · cases _e
    · cases _e
    · cases _e
    · cases _e
    · exact ⟨pin_laid_unicode_utf8_first, by kernel_rfl⟩) fits2
theorem topMoveTold_row_tie : Rows.topMoveToldRow.laidByTextAt .later Tryz.pinned [.data, .data, .data, .data, .sentinel, .sentinel, .funcsDeep, .pinned] true :=
  OpenClaim.laidByTextAt_pinned rfl rfl tie2 rfl rfl rfl rfl (fun y hy _e => by
    simp only [Rows.topMoveToldRow, List.zip_cons_cons, List.zip_nil_right, List.mem_cons, List.mem_nil_iff, or_false] at hy
    rcases hy with rfl | rfl | rfl | rfl | rfl | rfl | rfl | rfl
    · cases _e
    · cases _e
    · cases _e
    · cases _e
    · cases _e
    · cases _e
    · cases _e
    · exact ⟨pin_laid_unicode_utf8_first, by kernel_rfl⟩) fits2
theorem moveTriggersUpto_row_tie : Rows.moveTriggersUptoRow.laidByTextAt .later Tryz.pinned [.data, .data, .data, .funcsDeep] true :=
  OpenClaim.laidByTextAt_later rfl rfl tie noOwnUnsafe
theorem moveLaterUpto_row_tie : Rows.moveLaterUptoRow.laidByTextAt .later Tryz.pinned [.data, .data, .data, .funcsDeep] true :=
  OpenClaim.laidByTextAt_later rfl rfl tie noOwnUnsafe
theorem moveReplaysUpto_row_tie : Rows.moveReplaysUptoRow.laidByTextAt .later Tryz.pinned [.data, .data, .data, .funcsDeep] true :=
  OpenClaim.laidByTextAt_later rfl rfl tie noOwnUnsafe
theorem movePingPongsUpto_row_tie : Rows.movePingPongsUptoRow.laidByTextAt .later Tryz.pinned [.data, .data, .data, .funcsDeep] true :=
  OpenClaim.laidByTextAt_later rfl rfl tie noOwnUnsafe
theorem moveNetworksUpto_row_tie : Rows.moveNetworksUptoRow.laidByTextAt .later Tryz.pinned [.data, .data, .data, .funcsDeep] true :=
  OpenClaim.laidByTextAt_later rfl rfl tie noOwnUnsafe
theorem moveLessUpto_row_tie : Rows.moveLessUptoRow.laidByTextAt .later Tryz.pinned [.data, .data, .data, .funcsDeep] true :=
  OpenClaim.laidByTextAt_later rfl rfl tie noOwnUnsafe
theorem moveStaysUpto_row_tie : Rows.moveStaysUptoRow.laidByTextAt .later Tryz.pinned [.data, .data, .data, .funcsDeep] true :=
  OpenClaim.laidByTextAt_later rfl rfl tie noOwnUnsafe
theorem moveStrongestUpto_row_tie : Rows.moveStrongestUptoRow.laidByTextAt .later Tryz.pinned [.data, .data, .data, .funcsDeep] true :=
  OpenClaim.laidByTextAt_later rfl rfl tie noOwnUnsafe
theorem moveStatesUpto_row_tie : Rows.moveStatesUptoRow.laidByTextAt .later Tryz.pinned [.data, .data, .data, .funcsDeep] true :=
  OpenClaim.laidByTextAt_later rfl rfl tie noOwnUnsafe
theorem moveAppliesUpto_row_tie : Rows.moveAppliesUptoRow.laidByTextAt .later Tryz.pinned [.data, .data, .data, .funcsDeep] true :=
  OpenClaim.laidByTextAt_later rfl rfl tie noOwnUnsafe
theorem moveOnceUpto_row_tie : Rows.moveOnceUptoRow.laidByTextAt .later Tryz.pinned [.data, .data, .data, .funcsDeep] true :=
  OpenClaim.laidByTextAt_later rfl rfl tie noOwnUnsafe
theorem moveWaitsUpto_row_tie : Rows.moveWaitsUptoRow.laidByTextAt .later Tryz.pinned [.data, .data, .data, .funcsDeep] true :=
  OpenClaim.laidByTextAt_later rfl rfl tie noOwnUnsafe
theorem moveKeptUpto_row_tie : Rows.moveKeptUptoRow.laidByTextAt .later Tryz.pinned [.data, .data, .data, .funcsDeep] true :=
  OpenClaim.laidByTextAt_later rfl rfl tie noOwnUnsafe
theorem movePossibleUpto_row_tie : Rows.movePossibleUptoRow.laidByTextAt .later Tryz.pinned [.data, .data, .data, .funcsDeep] true :=
  OpenClaim.laidByTextAt_later rfl rfl tie noOwnUnsafe
theorem moveTextsUpto_row_tie : Rows.moveTextsUptoRow.laidByTextAt .later Tryz.pinned [.data, .data, .data, .data, .sentinel, .sentinel, .funcsDeep, .pinned] true :=
  OpenClaim.laidByTextAt_pinned rfl rfl tie2 rfl rfl rfl rfl (fun y hy _e => by
    simp only [Rows.moveTextsUptoRow, List.zip_cons_cons, List.zip_nil_right, List.mem_cons, List.mem_nil_iff, or_false] at hy
    rcases hy with rfl | rfl | rfl | rfl | rfl | rfl | rfl | rfl
    · cases _e
    · cases _e
    · cases _e
    · cases _e
    · cases _e
    · cases _e
    · cases _e
    · exact ⟨pin_laid_unicode_utf8_first, by kernel_rfl⟩) fits2
theorem topMoveOnceInOrderUpto_row_tie : Rows.topMoveOnceInOrderUptoRow.laidByTextAt .later Tryz.pinned [.data, .data, .data, .funcsDeep] true :=
  OpenClaim.laidByTextAt_later rfl rfl tie noOwnUnsafe
theorem topMoveConnectedAgainUpto_row_tie : Rows.topMoveConnectedAgainUptoRow.laidByTextAt .later Tryz.pinned [.data, .data, .data, .funcsDeep] true :=
  OpenClaim.laidByTextAt_later rfl rfl tie noOwnUnsafe
theorem topMoveToldUpto_row_tie : Rows.topMoveToldUptoRow.laidByTextAt .later Tryz.pinned [.data, .data, .data, .data, .sentinel, .sentinel, .funcsDeep, .pinned] true :=
  OpenClaim.laidByTextAt_pinned rfl rfl tie2 rfl rfl rfl rfl (fun y hy _e => by
    simp only [Rows.topMoveToldUptoRow, List.zip_cons_cons, List.zip_nil_right, List.mem_cons, List.mem_nil_iff, or_false] at hy
    rcases hy with rfl | rfl | rfl | rfl | rfl | rfl | rfl | rfl
    · cases _e
    · cases _e
    · cases _e
    · cases _e
    · cases _e
    · cases _e
    · cases _e
    · exact ⟨pin_laid_unicode_utf8_first, by kernel_rfl⟩) fits2
end Go.Proofs.YtcbabnbiinkafaaGreatDoor
