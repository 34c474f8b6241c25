/-
  NARROWER THAN 'FOR EVERY INPUT', by the rows' own cells (each row's printed sentence says how): MoveTriggers: laid · MoveLater: laid · MoveReplays: laid · MovePingPongs: laid · MoveNetworks: laid · MoveLess: laid · MoveStays: laid · MoveStrongest: laid · MoveStates: laid · MoveApplies: laid · MoveOnce: laid · MoveWaits: laid · MoveKept: laid · MovePossible: laid · MoveTexts: laid · TopMoveOnceInOrder: laid · TopMoveConnectedAgain: laid · TopMoveTold: laid.
  DERIVED. THE GIVEN ROWS OF THIS SEAT. 18 by the template 'for every input the law returns true; each argument reads behind the call as it read before'; 0 by the template 'total and deterministic' (their statements: YtcbabnbiinkafaaGreatDoorTotals.lean).
  GIVEN WITH THE SEED: the statements are not yours to turn. If you find one false, say at which input.
  Laid BY PROGRAM, IN A SANDBOX (cutbox-rows.mjs): the forced cells as the released guide's own fill.sh prints them over the translation ecc22b0e592d6bfc… (all of the seat's roots in one cut). By AI agents, Wed Nov 11 2026. No macro, syntax, notation, axiom, sorry.
-/
import Derived.Test.YtcbabnbiinkafaaGreatDoorChecked
import GoSem.PinnedTables
import GoSem.Claim
import GoSem.ClaimJoined
import GoSem.ClaimMapViews
import Derived.JoinedTies
import Derived.KernelRfl
namespace Go.Proofs.YtcbabnbiinkafaaGreatDoor
/- THE CELL 'sum', in the pinned program and in every row, IS THE sha256 OF THE DUMP (.gsa) THAT YtcbabnbiinkafaaGreatDoorProg.lean LOADS. Nothing in Lean hashes anything: it is a label: what it is worth is what the hold of that sum in a sandbox is worth. -/
noncomputable def Tryz.pinned : Pinned := { name := "ytcbabnbiinkafaagreatdoor", sum := "ecc22b0e592d6bfc6a19392e3a1d564d40f3df34bb6761935e0f8206e3980c5c", checked := Tryz.checked }
namespace Rows
def none {H : Type} : Left H := { results := [], args := [] }

/- WHAT THE LISTED PACKAGE-LEVEL VARIABLES READ AS WHEN THE CALL BEGINS. Each datum BY PROGRAM (the guide's laid-datum.mjs) off the statement by which the dump's own 'gosem.cut.vars' lays the variable. In a bare row this is a premise. The card (YtcbabnbiinkafaaGreatDoorCards.lean) ties it to the program's text. -/
def laid_math_bits_deBruijn32tab {H : Type} : DataW H := .agg [.lit (.int .u8 0), .lit (.int .u8 1), .lit (.int .u8 28), .lit (.int .u8 2), .lit (.int .u8 29), .lit (.int .u8 14), .lit (.int .u8 24), .lit (.int .u8 3), .lit (.int .u8 30), .lit (.int .u8 22), .lit (.int .u8 20), .lit (.int .u8 15), .lit (.int .u8 25), .lit (.int .u8 17), .lit (.int .u8 4), .lit (.int .u8 8), .lit (.int .u8 31), .lit (.int .u8 27), .lit (.int .u8 13), .lit (.int .u8 23), .lit (.int .u8 21), .lit (.int .u8 19), .lit (.int .u8 16), .lit (.int .u8 7), .lit (.int .u8 26), .lit (.int .u8 12), .lit (.int .u8 18), .lit (.int .u8 6), .lit (.int .u8 11), .lit (.int .u8 5), .lit (.int .u8 10), .lit (.int .u8 9)]
def laid_math_bits_deBruijn64tab {H : Type} : DataW H := .agg [.lit (.int .u8 0), .lit (.int .u8 1), .lit (.int .u8 56), .lit (.int .u8 2), .lit (.int .u8 57), .lit (.int .u8 49), .lit (.int .u8 28), .lit (.int .u8 3), .lit (.int .u8 61), .lit (.int .u8 58), .lit (.int .u8 42), .lit (.int .u8 50), .lit (.int .u8 38), .lit (.int .u8 29), .lit (.int .u8 17), .lit (.int .u8 4), .lit (.int .u8 62), .lit (.int .u8 47), .lit (.int .u8 59), .lit (.int .u8 36), .lit (.int .u8 45), .lit (.int .u8 43), .lit (.int .u8 51), .lit (.int .u8 22), .lit (.int .u8 53), .lit (.int .u8 39), .lit (.int .u8 33), .lit (.int .u8 30), .lit (.int .u8 24), .lit (.int .u8 18), .lit (.int .u8 12), .lit (.int .u8 5), .lit (.int .u8 63), .lit (.int .u8 55), .lit (.int .u8 48), .lit (.int .u8 27), .lit (.int .u8 60), .lit (.int .u8 41), .lit (.int .u8 37), .lit (.int .u8 16), .lit (.int .u8 46), .lit (.int .u8 35), .lit (.int .u8 44), .lit (.int .u8 21), .lit (.int .u8 52), .lit (.int .u8 32), .lit (.int .u8 23), .lit (.int .u8 11), .lit (.int .u8 54), .lit (.int .u8 26), .lit (.int .u8 40), .lit (.int .u8 15), .lit (.int .u8 34), .lit (.int .u8 20), .lit (.int .u8 31), .lit (.int .u8 10), .lit (.int .u8 25), .lit (.int .u8 14), .lit (.int .u8 19), .lit (.int .u8 9), .lit (.int .u8 13), .lit (.int .u8 8), .lit (.int .u8 7), .lit (.int .u8 6)]
def laid_internal_strconv_uint64pow10 {H : Type} : DataW H := .agg [.lit (.int .u64 1), .lit (.int .u64 10), .lit (.int .u64 100), .lit (.int .u64 1000), .lit (.int .u64 10000), .lit (.int .u64 100000), .lit (.int .u64 1000000), .lit (.int .u64 10000000), .lit (.int .u64 100000000), .lit (.int .u64 1000000000), .lit (.int .u64 10000000000), .lit (.int .u64 100000000000), .lit (.int .u64 1000000000000), .lit (.int .u64 10000000000000), .lit (.int .u64 100000000000000), .lit (.int .u64 1000000000000000), .lit (.int .u64 10000000000000000), .lit (.int .u64 100000000000000000), .lit (.int .u64 1000000000000000000), .lit (.int .u64 10000000000000000000)]
def laid_downtilt_move_kinds {H : Type} : DataW H := .iface "func table" (.agg [.agg [.lit (.string [100, 97, 116, 97]), .lit (.bool false), .iface "func" (.lit (.string [40, 42, 100, 111, 119, 110, 116, 105, 108, 116, 47, 109, 111, 118, 101, 46, 112, 104, 111, 110, 101, 41, 46, 100, 97, 116, 97]))], .agg [.lit (.string [115, 101, 110, 100]), .lit (.bool false), .iface "func" (.lit (.string [40, 42, 100, 111, 119, 110, 116, 105, 108, 116, 47, 109, 111, 118, 101, 46, 112, 104, 111, 110, 101, 41, 46, 115, 101, 110, 100]))], .agg [.lit (.string [97, 99, 107]), .lit (.bool false), .iface "func" (.lit (.string [40, 42, 100, 111, 119, 110, 116, 105, 108, 116, 47, 109, 111, 118, 101, 46, 112, 104, 111, 110, 101, 41, 46, 97, 99, 107]))], .agg [.lit (.string [112, 114, 101, 112, 97, 114, 101]), .lit (.bool true), .iface "func" (.lit (.string [40, 42, 100, 111, 119, 110, 116, 105, 108, 116, 47, 109, 111, 118, 101, 46, 112, 104, 111, 110, 101, 41, 46, 112, 114, 101, 112, 97, 114, 101]))], .agg [.lit (.string [99, 97, 110, 99, 101, 108]), .lit (.bool false), .iface "func" (.lit (.string [40, 42, 100, 111, 119, 110, 116, 105, 108, 116, 47, 109, 111, 118, 101, 46, 112, 104, 111, 110, 101, 41, 46, 99, 97, 110, 99, 101, 108]))], .agg [.lit (.string [99, 111, 109, 109, 97, 110, 100]), .lit (.bool false), .iface "func" (.lit (.string [40, 42, 100, 111, 119, 110, 116, 105, 108, 116, 47, 109, 111, 118, 101, 46, 112, 104, 111, 110, 101, 41, 46, 99, 111, 109, 109, 97, 110, 100]))], .agg [.lit (.string [99, 111, 109, 112, 108, 101, 116, 101]), .lit (.bool false), .iface "func" (.lit (.string [40, 42, 100, 111, 119, 110, 116, 105, 108, 116, 47, 109, 111, 118, 101, 46, 112, 104, 111, 110, 101, 41, 46, 99, 111, 109, 112, 108, 101, 116, 101]))], .agg [.lit (.string [102, 111, 114, 119, 97, 114, 100]), .lit (.bool false), .iface "func" (.lit (.string [40, 42, 100, 111, 119, 110, 116, 105, 108, 116, 47, 109, 111, 118, 101, 46, 112, 104, 111, 110, 101, 41, 46, 102, 111, 114, 119, 97, 114, 100]))], .agg [.lit (.string [115, 119, 105, 116, 99, 104]), .lit (.bool false), .iface "func" (.lit (.string [40, 42, 100, 111, 119, 110, 116, 105, 108, 116, 47, 109, 111, 118, 101, 46, 112, 104, 111, 110, 101, 41, 46, 116, 117, 114, 110]))], .agg [.lit (.string [102, 97, 105, 108]), .lit (.bool false), .iface "func" (.lit (.string [40, 42, 100, 111, 119, 110, 116, 105, 108, 116, 47, 109, 111, 118, 101, 46, 112, 104, 111, 110, 101, 41, 46, 102, 97, 105, 108]))], .agg [.lit (.string [114, 101, 99, 111, 118, 101, 114]), .lit (.bool true), .iface "func" (.lit (.string [40, 42, 100, 111, 119, 110, 116, 105, 108, 116, 47, 109, 111, 118, 101, 46, 112, 104, 111, 110, 101, 41, 46, 114, 101, 99, 111, 118, 101, 114]))], .agg [.lit (.string [112, 97, 115, 115]), .lit (.bool false), .iface "func" (.lit (.string [100, 111, 119, 110, 116, 105, 108, 116, 47, 109, 111, 118, 101, 46, 107, 105, 110, 100, 115, 36, 49]))]])
def laid_unicode_utf8_acceptRanges {H : Type} : DataW H := .agg [.agg [.lit (.int .u8 128), .lit (.int .u8 191)], .agg [.lit (.int .u8 160), .lit (.int .u8 191)], .agg [.lit (.int .u8 128), .lit (.int .u8 159)], .agg [.lit (.int .u8 144), .lit (.int .u8 191)], .agg [.lit (.int .u8 128), .lit (.int .u8 143)], .agg [.lit (.int .u8 0), .lit (.int .u8 0)], .agg [.lit (.int .u8 0), .lit (.int .u8 0)], .agg [.lit (.int .u8 0), .lit (.int .u8 0)], .agg [.lit (.int .u8 0), .lit (.int .u8 0)], .agg [.lit (.int .u8 0), .lit (.int .u8 0)], .agg [.lit (.int .u8 0), .lit (.int .u8 0)], .agg [.lit (.int .u8 0), .lit (.int .u8 0)], .agg [.lit (.int .u8 0), .lit (.int .u8 0)], .agg [.lit (.int .u8 0), .lit (.int .u8 0)], .agg [.lit (.int .u8 0), .lit (.int .u8 0)], .agg [.lit (.int .u8 0), .lit (.int .u8 0)]]
def laid_strconv_ErrRange {H : Type} : DataW H := .iface "*errors.errorString" (.ptr (.agg [.lit (.string [118, 97, 108, 117, 101, 32, 111, 117, 116, 32, 111, 102, 32, 114, 97, 110, 103, 101])]))
def laid_strconv_ErrSyntax {H : Type} : DataW H := .iface "*errors.errorString" (.ptr (.agg [.lit (.string [105, 110, 118, 97, 108, 105, 100, 32, 115, 121, 110, 116, 97, 120])]))
/-- One of Go's own tables, pinned by name: the form's constant. -/
def laid_unicode_utf8_first : DataW Unit := Go.Pinned.utf8First

/-- 'downtiltlaw08.MoveTriggers': WHATEVER THE INPUT: true; the input reads as it did. -/
def moveTriggersSpec : ChangeSpec := { name := "moveTriggers", fn := fun _ => fun
  | [d1, d2, d3] => { results := [.lit (.bool true)], args := [d1, d2, d3] }
  | _ => none }
def moveTriggersRow : OpenClaim := { program := "ytcbabnbiinkafaagreatdoor", sum := "ecc22b0e592d6bfc6a19392e3a1d564d40f3df34bb6761935e0f8206e3980c5c", func := "downtilt/downtiltlaw08.MoveTriggers", spec := "moveTriggers", inPlace := ["internal/abi.NoEscape", "internal/bytealg.MakeNoZero"], unfollowed := true, recurses := true, named := ["downtilt/move.kinds", "internal/strconv.uint64pow10", "math/bits.deBruijn32tab", "math/bits.deBruijn64tab"], apart := false, laid := [("math/bits.deBruijn32tab", laid_math_bits_deBruijn32tab), ("math/bits.deBruijn64tab", laid_math_bits_deBruijn64tab), ("internal/strconv.uint64pow10", laid_internal_strconv_uint64pow10), ("downtilt/move.kinds", laid_downtilt_move_kinds)] }
def MoveTriggersSaid : Prop := moveTriggersRow.holds Tryz.pinned (OpenSpec.ofChange moveTriggersSpec)

/-- ITS FALSE NEIGHBOUR: 'it returns false'. Refute it at one input. -/
def moveTriggersWrong : ChangeSpec := { name := "moveTriggers", fn := fun _ => fun
  | [d1, d2, d3] => { results := [.lit (.bool false)], args := [d1, d2, d3] }
  | _ => none }
def MoveTriggersWrongFalsely : Prop := moveTriggersRow.holds Tryz.pinned (OpenSpec.ofChange moveTriggersWrong)

/-- 'downtiltlaw08.MoveLater': WHATEVER THE INPUT: true; the input reads as it did. -/
def moveLaterSpec : ChangeSpec := { name := "moveLater", fn := fun _ => fun
  | [d1, d2, d3] => { results := [.lit (.bool true)], args := [d1, d2, d3] }
  | _ => none }
def moveLaterRow : OpenClaim := { program := "ytcbabnbiinkafaagreatdoor", sum := "ecc22b0e592d6bfc6a19392e3a1d564d40f3df34bb6761935e0f8206e3980c5c", func := "downtilt/downtiltlaw08.MoveLater", spec := "moveLater", inPlace := ["internal/abi.NoEscape", "internal/bytealg.MakeNoZero"], unfollowed := true, recurses := true, named := ["downtilt/move.kinds", "internal/strconv.uint64pow10", "math/bits.deBruijn32tab", "math/bits.deBruijn64tab"], apart := false, laid := [("math/bits.deBruijn32tab", laid_math_bits_deBruijn32tab), ("math/bits.deBruijn64tab", laid_math_bits_deBruijn64tab), ("internal/strconv.uint64pow10", laid_internal_strconv_uint64pow10), ("downtilt/move.kinds", laid_downtilt_move_kinds)] }
def MoveLaterSaid : Prop := moveLaterRow.holds Tryz.pinned (OpenSpec.ofChange moveLaterSpec)

/-- ITS FALSE NEIGHBOUR: 'it returns false'. Refute it at one input. -/
def moveLaterWrong : ChangeSpec := { name := "moveLater", fn := fun _ => fun
  | [d1, d2, d3] => { results := [.lit (.bool false)], args := [d1, d2, d3] }
  | _ => none }
def MoveLaterWrongFalsely : Prop := moveLaterRow.holds Tryz.pinned (OpenSpec.ofChange moveLaterWrong)

/-- 'downtiltlaw08.MoveReplays': WHATEVER THE INPUT: true; the input reads as it did. -/
def moveReplaysSpec : ChangeSpec := { name := "moveReplays", fn := fun _ => fun
  | [d1, d2, d3] => { results := [.lit (.bool true)], args := [d1, d2, d3] }
  | _ => none }
def moveReplaysRow : OpenClaim := { program := "ytcbabnbiinkafaagreatdoor", sum := "ecc22b0e592d6bfc6a19392e3a1d564d40f3df34bb6761935e0f8206e3980c5c", func := "downtilt/downtiltlaw08.MoveReplays", spec := "moveReplays", inPlace := ["internal/abi.NoEscape", "internal/bytealg.MakeNoZero"], unfollowed := true, recurses := true, named := ["downtilt/move.kinds", "internal/strconv.uint64pow10", "math/bits.deBruijn32tab", "math/bits.deBruijn64tab"], apart := false, laid := [("math/bits.deBruijn32tab", laid_math_bits_deBruijn32tab), ("math/bits.deBruijn64tab", laid_math_bits_deBruijn64tab), ("internal/strconv.uint64pow10", laid_internal_strconv_uint64pow10), ("downtilt/move.kinds", laid_downtilt_move_kinds)] }
def MoveReplaysSaid : Prop := moveReplaysRow.holds Tryz.pinned (OpenSpec.ofChange moveReplaysSpec)

/-- ITS FALSE NEIGHBOUR: 'it returns false'. Refute it at one input. -/
def moveReplaysWrong : ChangeSpec := { name := "moveReplays", fn := fun _ => fun
  | [d1, d2, d3] => { results := [.lit (.bool false)], args := [d1, d2, d3] }
  | _ => none }
def MoveReplaysWrongFalsely : Prop := moveReplaysRow.holds Tryz.pinned (OpenSpec.ofChange moveReplaysWrong)

/-- 'downtiltlaw08.MovePingPongs': WHATEVER THE INPUT: true; the input reads as it did. -/
def movePingPongsSpec : ChangeSpec := { name := "movePingPongs", fn := fun _ => fun
  | [d1, d2, d3] => { results := [.lit (.bool true)], args := [d1, d2, d3] }
  | _ => none }
def movePingPongsRow : OpenClaim := { program := "ytcbabnbiinkafaagreatdoor", sum := "ecc22b0e592d6bfc6a19392e3a1d564d40f3df34bb6761935e0f8206e3980c5c", func := "downtilt/downtiltlaw08.MovePingPongs", spec := "movePingPongs", inPlace := ["internal/abi.NoEscape", "internal/bytealg.MakeNoZero"], unfollowed := true, recurses := true, named := ["downtilt/move.kinds", "internal/strconv.uint64pow10", "math/bits.deBruijn32tab", "math/bits.deBruijn64tab"], apart := false, laid := [("math/bits.deBruijn32tab", laid_math_bits_deBruijn32tab), ("math/bits.deBruijn64tab", laid_math_bits_deBruijn64tab), ("internal/strconv.uint64pow10", laid_internal_strconv_uint64pow10), ("downtilt/move.kinds", laid_downtilt_move_kinds)] }
def MovePingPongsSaid : Prop := movePingPongsRow.holds Tryz.pinned (OpenSpec.ofChange movePingPongsSpec)

/-- ITS FALSE NEIGHBOUR: 'it returns false'. Refute it at one input. -/
def movePingPongsWrong : ChangeSpec := { name := "movePingPongs", fn := fun _ => fun
  | [d1, d2, d3] => { results := [.lit (.bool false)], args := [d1, d2, d3] }
  | _ => none }
def MovePingPongsWrongFalsely : Prop := movePingPongsRow.holds Tryz.pinned (OpenSpec.ofChange movePingPongsWrong)

/-- 'downtiltlaw08.MoveNetworks': WHATEVER THE INPUT: true; the input reads as it did. -/
def moveNetworksSpec : ChangeSpec := { name := "moveNetworks", fn := fun _ => fun
  | [d1, d2] => { results := [.lit (.bool true)], args := [d1, d2] }
  | _ => none }
def moveNetworksRow : OpenClaim := { program := "ytcbabnbiinkafaagreatdoor", sum := "ecc22b0e592d6bfc6a19392e3a1d564d40f3df34bb6761935e0f8206e3980c5c", func := "downtilt/downtiltlaw08.MoveNetworks", spec := "moveNetworks", inPlace := ["internal/abi.NoEscape", "internal/bytealg.MakeNoZero"], unfollowed := true, recurses := true, named := ["downtilt/move.kinds", "internal/strconv.uint64pow10", "math/bits.deBruijn32tab", "math/bits.deBruijn64tab"], apart := false, laid := [("math/bits.deBruijn32tab", laid_math_bits_deBruijn32tab), ("math/bits.deBruijn64tab", laid_math_bits_deBruijn64tab), ("internal/strconv.uint64pow10", laid_internal_strconv_uint64pow10), ("downtilt/move.kinds", laid_downtilt_move_kinds)] }
def MoveNetworksSaid : Prop := moveNetworksRow.holds Tryz.pinned (OpenSpec.ofChange moveNetworksSpec)

/-- ITS FALSE NEIGHBOUR: 'it returns false'. Refute it at one input. -/
def moveNetworksWrong : ChangeSpec := { name := "moveNetworks", fn := fun _ => fun
  | [d1, d2] => { results := [.lit (.bool false)], args := [d1, d2] }
  | _ => none }
def MoveNetworksWrongFalsely : Prop := moveNetworksRow.holds Tryz.pinned (OpenSpec.ofChange moveNetworksWrong)

/-- 'downtiltlaw08.MoveLess': WHATEVER THE INPUT: true; the input reads as it did. -/
def moveLessSpec : ChangeSpec := { name := "moveLess", fn := fun _ => fun
  | [d1, d2, d3] => { results := [.lit (.bool true)], args := [d1, d2, d3] }
  | _ => none }
def moveLessRow : OpenClaim := { program := "ytcbabnbiinkafaagreatdoor", sum := "ecc22b0e592d6bfc6a19392e3a1d564d40f3df34bb6761935e0f8206e3980c5c", func := "downtilt/downtiltlaw08.MoveLess", spec := "moveLess", inPlace := ["internal/abi.NoEscape", "internal/bytealg.MakeNoZero"], unfollowed := true, recurses := true, named := ["downtilt/move.kinds", "internal/strconv.uint64pow10", "math/bits.deBruijn32tab", "math/bits.deBruijn64tab"], apart := false, laid := [("math/bits.deBruijn32tab", laid_math_bits_deBruijn32tab), ("math/bits.deBruijn64tab", laid_math_bits_deBruijn64tab), ("internal/strconv.uint64pow10", laid_internal_strconv_uint64pow10), ("downtilt/move.kinds", laid_downtilt_move_kinds)] }
def MoveLessSaid : Prop := moveLessRow.holds Tryz.pinned (OpenSpec.ofChange moveLessSpec)

/-- ITS FALSE NEIGHBOUR: 'it returns false'. Refute it at one input. -/
def moveLessWrong : ChangeSpec := { name := "moveLess", fn := fun _ => fun
  | [d1, d2, d3] => { results := [.lit (.bool false)], args := [d1, d2, d3] }
  | _ => none }
def MoveLessWrongFalsely : Prop := moveLessRow.holds Tryz.pinned (OpenSpec.ofChange moveLessWrong)

/-- 'downtiltlaw08.MoveStays': WHATEVER THE INPUT: true; the input reads as it did. -/
def moveStaysSpec : ChangeSpec := { name := "moveStays", fn := fun _ => fun
  | [d1, d2, d3] => { results := [.lit (.bool true)], args := [d1, d2, d3] }
  | _ => none }
def moveStaysRow : OpenClaim := { program := "ytcbabnbiinkafaagreatdoor", sum := "ecc22b0e592d6bfc6a19392e3a1d564d40f3df34bb6761935e0f8206e3980c5c", func := "downtilt/downtiltlaw08.MoveStays", spec := "moveStays", inPlace := ["internal/abi.NoEscape", "internal/bytealg.MakeNoZero"], unfollowed := true, recurses := true, named := ["downtilt/move.kinds", "internal/strconv.uint64pow10", "math/bits.deBruijn32tab", "math/bits.deBruijn64tab"], apart := false, laid := [("math/bits.deBruijn32tab", laid_math_bits_deBruijn32tab), ("math/bits.deBruijn64tab", laid_math_bits_deBruijn64tab), ("internal/strconv.uint64pow10", laid_internal_strconv_uint64pow10), ("downtilt/move.kinds", laid_downtilt_move_kinds)] }
def MoveStaysSaid : Prop := moveStaysRow.holds Tryz.pinned (OpenSpec.ofChange moveStaysSpec)

/-- ITS FALSE NEIGHBOUR: 'it returns false'. Refute it at one input. -/
def moveStaysWrong : ChangeSpec := { name := "moveStays", fn := fun _ => fun
  | [d1, d2, d3] => { results := [.lit (.bool false)], args := [d1, d2, d3] }
  | _ => none }
def MoveStaysWrongFalsely : Prop := moveStaysRow.holds Tryz.pinned (OpenSpec.ofChange moveStaysWrong)

/-- 'downtiltlaw08.MoveStrongest': WHATEVER THE INPUT: true; the input reads as it did. -/
def moveStrongestSpec : ChangeSpec := { name := "moveStrongest", fn := fun _ => fun
  | [d1, d2, d3] => { results := [.lit (.bool true)], args := [d1, d2, d3] }
  | _ => none }
def moveStrongestRow : OpenClaim := { program := "ytcbabnbiinkafaagreatdoor", sum := "ecc22b0e592d6bfc6a19392e3a1d564d40f3df34bb6761935e0f8206e3980c5c", func := "downtilt/downtiltlaw08.MoveStrongest", spec := "moveStrongest", inPlace := ["internal/abi.NoEscape", "internal/bytealg.MakeNoZero"], unfollowed := true, recurses := true, named := ["downtilt/move.kinds", "internal/strconv.uint64pow10", "math/bits.deBruijn32tab", "math/bits.deBruijn64tab"], apart := false, laid := [("math/bits.deBruijn32tab", laid_math_bits_deBruijn32tab), ("math/bits.deBruijn64tab", laid_math_bits_deBruijn64tab), ("internal/strconv.uint64pow10", laid_internal_strconv_uint64pow10), ("downtilt/move.kinds", laid_downtilt_move_kinds)] }
def MoveStrongestSaid : Prop := moveStrongestRow.holds Tryz.pinned (OpenSpec.ofChange moveStrongestSpec)

/-- ITS FALSE NEIGHBOUR: 'it returns false'. Refute it at one input. -/
def moveStrongestWrong : ChangeSpec := { name := "moveStrongest", fn := fun _ => fun
  | [d1, d2, d3] => { results := [.lit (.bool false)], args := [d1, d2, d3] }
  | _ => none }
def MoveStrongestWrongFalsely : Prop := moveStrongestRow.holds Tryz.pinned (OpenSpec.ofChange moveStrongestWrong)

/-- 'downtiltlaw08.MoveStates': WHATEVER THE INPUT: true; the input reads as it did. -/
def moveStatesSpec : ChangeSpec := { name := "moveStates", fn := fun _ => fun
  | [d1, d2, d3] => { results := [.lit (.bool true)], args := [d1, d2, d3] }
  | _ => none }
def moveStatesRow : OpenClaim := { program := "ytcbabnbiinkafaagreatdoor", sum := "ecc22b0e592d6bfc6a19392e3a1d564d40f3df34bb6761935e0f8206e3980c5c", func := "downtilt/downtiltlaw08.MoveStates", spec := "moveStates", inPlace := ["internal/abi.NoEscape", "internal/bytealg.MakeNoZero"], unfollowed := true, recurses := true, named := ["downtilt/move.kinds", "internal/strconv.uint64pow10", "math/bits.deBruijn32tab", "math/bits.deBruijn64tab"], apart := false, laid := [("math/bits.deBruijn32tab", laid_math_bits_deBruijn32tab), ("math/bits.deBruijn64tab", laid_math_bits_deBruijn64tab), ("internal/strconv.uint64pow10", laid_internal_strconv_uint64pow10), ("downtilt/move.kinds", laid_downtilt_move_kinds)] }
def MoveStatesSaid : Prop := moveStatesRow.holds Tryz.pinned (OpenSpec.ofChange moveStatesSpec)

/-- ITS FALSE NEIGHBOUR: 'it returns false'. Refute it at one input. -/
def moveStatesWrong : ChangeSpec := { name := "moveStates", fn := fun _ => fun
  | [d1, d2, d3] => { results := [.lit (.bool false)], args := [d1, d2, d3] }
  | _ => none }
def MoveStatesWrongFalsely : Prop := moveStatesRow.holds Tryz.pinned (OpenSpec.ofChange moveStatesWrong)

/-- 'downtiltlaw08.MoveApplies': WHATEVER THE INPUT: true; the input reads as it did. -/
def moveAppliesSpec : ChangeSpec := { name := "moveApplies", fn := fun _ => fun
  | [d1, d2, d3] => { results := [.lit (.bool true)], args := [d1, d2, d3] }
  | _ => none }
def moveAppliesRow : OpenClaim := { program := "ytcbabnbiinkafaagreatdoor", sum := "ecc22b0e592d6bfc6a19392e3a1d564d40f3df34bb6761935e0f8206e3980c5c", func := "downtilt/downtiltlaw08.MoveApplies", spec := "moveApplies", inPlace := ["internal/abi.NoEscape", "internal/bytealg.MakeNoZero"], unfollowed := true, recurses := true, named := ["downtilt/move.kinds", "internal/strconv.uint64pow10", "math/bits.deBruijn32tab", "math/bits.deBruijn64tab"], apart := false, laid := [("math/bits.deBruijn32tab", laid_math_bits_deBruijn32tab), ("math/bits.deBruijn64tab", laid_math_bits_deBruijn64tab), ("internal/strconv.uint64pow10", laid_internal_strconv_uint64pow10), ("downtilt/move.kinds", laid_downtilt_move_kinds)] }
def MoveAppliesSaid : Prop := moveAppliesRow.holds Tryz.pinned (OpenSpec.ofChange moveAppliesSpec)

/-- ITS FALSE NEIGHBOUR: 'it returns false'. Refute it at one input. -/
def moveAppliesWrong : ChangeSpec := { name := "moveApplies", fn := fun _ => fun
  | [d1, d2, d3] => { results := [.lit (.bool false)], args := [d1, d2, d3] }
  | _ => none }
def MoveAppliesWrongFalsely : Prop := moveAppliesRow.holds Tryz.pinned (OpenSpec.ofChange moveAppliesWrong)

/-- 'downtiltlaw08.MoveOnce': WHATEVER THE INPUT: true; the input reads as it did. -/
def moveOnceSpec : ChangeSpec := { name := "moveOnce", fn := fun _ => fun
  | [d1, d2, d3] => { results := [.lit (.bool true)], args := [d1, d2, d3] }
  | _ => none }
def moveOnceRow : OpenClaim := { program := "ytcbabnbiinkafaagreatdoor", sum := "ecc22b0e592d6bfc6a19392e3a1d564d40f3df34bb6761935e0f8206e3980c5c", func := "downtilt/downtiltlaw08.MoveOnce", spec := "moveOnce", inPlace := ["internal/abi.NoEscape", "internal/bytealg.MakeNoZero"], unfollowed := true, recurses := true, named := ["downtilt/move.kinds", "internal/strconv.uint64pow10", "math/bits.deBruijn32tab", "math/bits.deBruijn64tab"], apart := false, laid := [("math/bits.deBruijn32tab", laid_math_bits_deBruijn32tab), ("math/bits.deBruijn64tab", laid_math_bits_deBruijn64tab), ("internal/strconv.uint64pow10", laid_internal_strconv_uint64pow10), ("downtilt/move.kinds", laid_downtilt_move_kinds)] }
def MoveOnceSaid : Prop := moveOnceRow.holds Tryz.pinned (OpenSpec.ofChange moveOnceSpec)

/-- ITS FALSE NEIGHBOUR: 'it returns false'. Refute it at one input. -/
def moveOnceWrong : ChangeSpec := { name := "moveOnce", fn := fun _ => fun
  | [d1, d2, d3] => { results := [.lit (.bool false)], args := [d1, d2, d3] }
  | _ => none }
def MoveOnceWrongFalsely : Prop := moveOnceRow.holds Tryz.pinned (OpenSpec.ofChange moveOnceWrong)

/-- 'downtiltlaw08.MoveWaits': WHATEVER THE INPUT: true; the input reads as it did. -/
def moveWaitsSpec : ChangeSpec := { name := "moveWaits", fn := fun _ => fun
  | [d1, d2] => { results := [.lit (.bool true)], args := [d1, d2] }
  | _ => none }
def moveWaitsRow : OpenClaim := { program := "ytcbabnbiinkafaagreatdoor", sum := "ecc22b0e592d6bfc6a19392e3a1d564d40f3df34bb6761935e0f8206e3980c5c", func := "downtilt/downtiltlaw08.MoveWaits", spec := "moveWaits", inPlace := ["internal/abi.NoEscape", "internal/bytealg.MakeNoZero"], unfollowed := true, recurses := true, named := ["downtilt/move.kinds", "internal/strconv.uint64pow10", "math/bits.deBruijn32tab", "math/bits.deBruijn64tab"], apart := false, laid := [("math/bits.deBruijn32tab", laid_math_bits_deBruijn32tab), ("math/bits.deBruijn64tab", laid_math_bits_deBruijn64tab), ("internal/strconv.uint64pow10", laid_internal_strconv_uint64pow10), ("downtilt/move.kinds", laid_downtilt_move_kinds)] }
def MoveWaitsSaid : Prop := moveWaitsRow.holds Tryz.pinned (OpenSpec.ofChange moveWaitsSpec)

/-- ITS FALSE NEIGHBOUR: 'it returns false'. Refute it at one input. -/
def moveWaitsWrong : ChangeSpec := { name := "moveWaits", fn := fun _ => fun
  | [d1, d2] => { results := [.lit (.bool false)], args := [d1, d2] }
  | _ => none }
def MoveWaitsWrongFalsely : Prop := moveWaitsRow.holds Tryz.pinned (OpenSpec.ofChange moveWaitsWrong)

/-- 'downtiltlaw08.MoveKept': WHATEVER THE INPUT: true; the input reads as it did. -/
def moveKeptSpec : ChangeSpec := { name := "moveKept", fn := fun _ => fun
  | [d1, d2, d3] => { results := [.lit (.bool true)], args := [d1, d2, d3] }
  | _ => none }
def moveKeptRow : OpenClaim := { program := "ytcbabnbiinkafaagreatdoor", sum := "ecc22b0e592d6bfc6a19392e3a1d564d40f3df34bb6761935e0f8206e3980c5c", func := "downtilt/downtiltlaw08.MoveKept", spec := "moveKept", inPlace := ["internal/abi.NoEscape", "internal/bytealg.MakeNoZero"], unfollowed := true, recurses := true, named := ["downtilt/move.kinds", "internal/strconv.uint64pow10", "math/bits.deBruijn32tab", "math/bits.deBruijn64tab"], apart := false, laid := [("math/bits.deBruijn32tab", laid_math_bits_deBruijn32tab), ("math/bits.deBruijn64tab", laid_math_bits_deBruijn64tab), ("internal/strconv.uint64pow10", laid_internal_strconv_uint64pow10), ("downtilt/move.kinds", laid_downtilt_move_kinds)] }
def MoveKeptSaid : Prop := moveKeptRow.holds Tryz.pinned (OpenSpec.ofChange moveKeptSpec)

/-- ITS FALSE NEIGHBOUR: 'it returns false'. Refute it at one input. -/
def moveKeptWrong : ChangeSpec := { name := "moveKept", fn := fun _ => fun
  | [d1, d2, d3] => { results := [.lit (.bool false)], args := [d1, d2, d3] }
  | _ => none }
def MoveKeptWrongFalsely : Prop := moveKeptRow.holds Tryz.pinned (OpenSpec.ofChange moveKeptWrong)

/-- 'downtiltlaw08.MovePossible': WHATEVER THE INPUT: true; the input reads as it did. -/
def movePossibleSpec : ChangeSpec := { name := "movePossible", fn := fun _ => fun
  | [d1, d2, d3] => { results := [.lit (.bool true)], args := [d1, d2, d3] }
  | _ => none }
def movePossibleRow : OpenClaim := { program := "ytcbabnbiinkafaagreatdoor", sum := "ecc22b0e592d6bfc6a19392e3a1d564d40f3df34bb6761935e0f8206e3980c5c", func := "downtilt/downtiltlaw08.MovePossible", spec := "movePossible", inPlace := ["internal/abi.NoEscape", "internal/bytealg.MakeNoZero"], unfollowed := true, recurses := true, named := ["downtilt/move.kinds", "internal/strconv.uint64pow10", "math/bits.deBruijn32tab", "math/bits.deBruijn64tab"], apart := false, laid := [("math/bits.deBruijn32tab", laid_math_bits_deBruijn32tab), ("math/bits.deBruijn64tab", laid_math_bits_deBruijn64tab), ("internal/strconv.uint64pow10", laid_internal_strconv_uint64pow10), ("downtilt/move.kinds", laid_downtilt_move_kinds)] }
def MovePossibleSaid : Prop := movePossibleRow.holds Tryz.pinned (OpenSpec.ofChange movePossibleSpec)

/-- ITS FALSE NEIGHBOUR: 'it returns false'. Refute it at one input. -/
def movePossibleWrong : ChangeSpec := { name := "movePossible", fn := fun _ => fun
  | [d1, d2, d3] => { results := [.lit (.bool false)], args := [d1, d2, d3] }
  | _ => none }
def MovePossibleWrongFalsely : Prop := movePossibleRow.holds Tryz.pinned (OpenSpec.ofChange movePossibleWrong)

/-- 'downtiltlaw08.MoveTexts': WHATEVER THE INPUT: true; the input reads as it did. -/
def moveTextsSpec : ChangeSpec := { name := "moveTexts", fn := fun _ => fun
  | [d1, d2, d3] => { results := [.lit (.bool true)], args := [d1, d2, d3] }
  | _ => none }
def moveTextsRow : OpenClaim := { program := "ytcbabnbiinkafaagreatdoor", sum := "ecc22b0e592d6bfc6a19392e3a1d564d40f3df34bb6761935e0f8206e3980c5c", func := "downtilt/downtiltlaw08.MoveTexts", spec := "moveTexts", inPlace := ["internal/abi.NoEscape", "internal/bytealg.MakeNoZero", "internal/bytealg.IndexByteString", "internal/bytealg.IndexString", "internal/bytealg.CountString"], unfollowed := true, recurses := true, named := ["downtilt/move.kinds", "internal/strconv.uint64pow10", "math/bits.deBruijn32tab", "math/bits.deBruijn64tab", "internal/bytealg.MaxLen", "unicode/utf8.first", "unicode/utf8.acceptRanges", "strconv.ErrSyntax", "strconv.ErrRange"], apart := false, laid := [("math/bits.deBruijn32tab", laid_math_bits_deBruijn32tab), ("math/bits.deBruijn64tab", laid_math_bits_deBruijn64tab), ("internal/strconv.uint64pow10", laid_internal_strconv_uint64pow10), ("unicode/utf8.acceptRanges", laid_unicode_utf8_acceptRanges), ("strconv.ErrRange", laid_strconv_ErrRange), ("strconv.ErrSyntax", laid_strconv_ErrSyntax), ("downtilt/move.kinds", laid_downtilt_move_kinds), ("unicode/utf8.first", laid_unicode_utf8_first)] }
def MoveTextsSaid : Prop := moveTextsRow.holds Tryz.pinned (OpenSpec.ofChange moveTextsSpec)

/-- ITS FALSE NEIGHBOUR: 'it returns false'. Refute it at one input. -/
def moveTextsWrong : ChangeSpec := { name := "moveTexts", fn := fun _ => fun
  | [d1, d2, d3] => { results := [.lit (.bool false)], args := [d1, d2, d3] }
  | _ => none }
def MoveTextsWrongFalsely : Prop := moveTextsRow.holds Tryz.pinned (OpenSpec.ofChange moveTextsWrong)

/-- 'downtilttop.TopMoveOnceInOrder': WHATEVER THE INPUT: true; the input reads as it did. -/
def topMoveOnceInOrderSpec : ChangeSpec := { name := "topMoveOnceInOrder", fn := fun _ => fun
  | [d1, d2, d3] => { results := [.lit (.bool true)], args := [d1, d2, d3] }
  | _ => none }
def topMoveOnceInOrderRow : OpenClaim := { program := "ytcbabnbiinkafaagreatdoor", sum := "ecc22b0e592d6bfc6a19392e3a1d564d40f3df34bb6761935e0f8206e3980c5c", func := "downtilt/downtilttop.TopMoveOnceInOrder", spec := "topMoveOnceInOrder", inPlace := ["internal/abi.NoEscape", "internal/bytealg.MakeNoZero"], unfollowed := true, recurses := true, named := ["downtilt/move.kinds", "internal/strconv.uint64pow10", "math/bits.deBruijn32tab", "math/bits.deBruijn64tab"], apart := false, laid := [("math/bits.deBruijn32tab", laid_math_bits_deBruijn32tab), ("math/bits.deBruijn64tab", laid_math_bits_deBruijn64tab), ("internal/strconv.uint64pow10", laid_internal_strconv_uint64pow10), ("downtilt/move.kinds", laid_downtilt_move_kinds)] }
def TopMoveOnceInOrderSaid : Prop := topMoveOnceInOrderRow.holds Tryz.pinned (OpenSpec.ofChange topMoveOnceInOrderSpec)

/-- ITS FALSE NEIGHBOUR: 'it returns false'. Refute it at one input. -/
def topMoveOnceInOrderWrong : ChangeSpec := { name := "topMoveOnceInOrder", fn := fun _ => fun
  | [d1, d2, d3] => { results := [.lit (.bool false)], args := [d1, d2, d3] }
  | _ => none }
def TopMoveOnceInOrderWrongFalsely : Prop := topMoveOnceInOrderRow.holds Tryz.pinned (OpenSpec.ofChange topMoveOnceInOrderWrong)

/-- 'downtilttop.TopMoveConnectedAgain': WHATEVER THE INPUT: true; the input reads as it did. -/
def topMoveConnectedAgainSpec : ChangeSpec := { name := "topMoveConnectedAgain", fn := fun _ => fun
  | [d1, d2, d3] => { results := [.lit (.bool true)], args := [d1, d2, d3] }
  | _ => none }
def topMoveConnectedAgainRow : OpenClaim := { program := "ytcbabnbiinkafaagreatdoor", sum := "ecc22b0e592d6bfc6a19392e3a1d564d40f3df34bb6761935e0f8206e3980c5c", func := "downtilt/downtilttop.TopMoveConnectedAgain", spec := "topMoveConnectedAgain", inPlace := ["internal/abi.NoEscape", "internal/bytealg.MakeNoZero"], unfollowed := true, recurses := true, named := ["downtilt/move.kinds", "internal/strconv.uint64pow10", "math/bits.deBruijn32tab", "math/bits.deBruijn64tab"], apart := false, laid := [("math/bits.deBruijn32tab", laid_math_bits_deBruijn32tab), ("math/bits.deBruijn64tab", laid_math_bits_deBruijn64tab), ("internal/strconv.uint64pow10", laid_internal_strconv_uint64pow10), ("downtilt/move.kinds", laid_downtilt_move_kinds)] }
def TopMoveConnectedAgainSaid : Prop := topMoveConnectedAgainRow.holds Tryz.pinned (OpenSpec.ofChange topMoveConnectedAgainSpec)

/-- ITS FALSE NEIGHBOUR: 'it returns false'. Refute it at one input. -/
def topMoveConnectedAgainWrong : ChangeSpec := { name := "topMoveConnectedAgain", fn := fun _ => fun
  | [d1, d2, d3] => { results := [.lit (.bool false)], args := [d1, d2, d3] }
  | _ => none }
def TopMoveConnectedAgainWrongFalsely : Prop := topMoveConnectedAgainRow.holds Tryz.pinned (OpenSpec.ofChange topMoveConnectedAgainWrong)

/-- 'downtilttop.TopMoveTold': WHATEVER THE INPUT: true; the input reads as it did. -/
def topMoveToldSpec : ChangeSpec := { name := "topMoveTold", fn := fun _ => fun
  | [d1, d2, d3] => { results := [.lit (.bool true)], args := [d1, d2, d3] }
  | _ => none }
def topMoveToldRow : OpenClaim := { program := "ytcbabnbiinkafaagreatdoor", sum := "ecc22b0e592d6bfc6a19392e3a1d564d40f3df34bb6761935e0f8206e3980c5c", func := "downtilt/downtilttop.TopMoveTold", spec := "topMoveTold", inPlace := ["internal/abi.NoEscape", "internal/bytealg.MakeNoZero", "internal/bytealg.IndexByteString", "internal/bytealg.IndexString", "internal/bytealg.CountString"], unfollowed := true, recurses := true, named := ["downtilt/move.kinds", "internal/strconv.uint64pow10", "math/bits.deBruijn32tab", "math/bits.deBruijn64tab", "internal/bytealg.MaxLen", "unicode/utf8.first", "unicode/utf8.acceptRanges", "strconv.ErrSyntax", "strconv.ErrRange"], apart := false, laid := [("math/bits.deBruijn32tab", laid_math_bits_deBruijn32tab), ("math/bits.deBruijn64tab", laid_math_bits_deBruijn64tab), ("internal/strconv.uint64pow10", laid_internal_strconv_uint64pow10), ("unicode/utf8.acceptRanges", laid_unicode_utf8_acceptRanges), ("strconv.ErrRange", laid_strconv_ErrRange), ("strconv.ErrSyntax", laid_strconv_ErrSyntax), ("downtilt/move.kinds", laid_downtilt_move_kinds), ("unicode/utf8.first", laid_unicode_utf8_first)] }
def TopMoveToldSaid : Prop := topMoveToldRow.holds Tryz.pinned (OpenSpec.ofChange topMoveToldSpec)

/-- ITS FALSE NEIGHBOUR: 'it returns false'. Refute it at one input. -/
def topMoveToldWrong : ChangeSpec := { name := "topMoveTold", fn := fun _ => fun
  | [d1, d2, d3] => { results := [.lit (.bool false)], args := [d1, d2, d3] }
  | _ => none }
def TopMoveToldWrongFalsely : Prop := topMoveToldRow.holds Tryz.pinned (OpenSpec.ofChange topMoveToldWrong)

/- THE SECOND FORM. 'bulk': how many values and letters a reading holds, each counted each time it is reached (what is shared counts as often as it is met; a slice's spare places count too). A statement '..UptoSaid' is the law's where the arguments, and the package variables that the reading takes, are together of bulk at most 1048576: NARROWER than '..Said'. Prove '..Said' where nothing that the law and all that it calls make is longer than what came in: it says more and counts as full. Else prove '..UptoSaid'. A law counts once. -/
mutual
def uptoBulk {H : Type} : DataW H → Nat
  | .lit (.string bytes) => bytes.length + 1
  | .lit _ => 1
  | .nil => 1
  | .ptr d => uptoBulk d + 1
  | .slice elems spare => uptoBulkAll elems + uptoBulkAll spare + 1
  | .agg parts => uptoBulkAll parts + 1
  | .iface _ d => uptoBulk d + 1
  | .map entries => uptoBulkEntries entries + 1
  | .held _ => 1
def uptoBulkAll {H : Type} : List (DataW H) → Nat
  | [] => 0
  | d :: r => uptoBulk d + uptoBulkAll r
def uptoBulkEntries {H : Type} : List (Lit × DataW H) → Nat
  | [] => 0
  | x :: r => uptoBulkEntry x + uptoBulkEntries r
def uptoBulkEntry {H : Type} : Lit × DataW H → Nat
  | (.string bytes, d) => bytes.length + uptoBulk d + 1
  | (_, d) => uptoBulk d + 1
 end
def uptoSmall : (H : Type) → List (DataW H) → Bool := fun _ ds => decide (uptoBulkAll ds ≤ 1048576)
def OpenSpec.upto (s : _root_.Go.ChangeSpec) : _root_.Go.OpenSpec := { _root_.Go.OpenSpec.ofChange s with cond := some uptoSmall }

/-- 'downtiltlaw08.MoveTriggers', WHERE WHAT IT READS IS OF BULK AT MOST 1048576: true; the input reads as it did. -/
def moveTriggersUptoRow : OpenClaim := { program := "ytcbabnbiinkafaagreatdoor", sum := "ecc22b0e592d6bfc6a19392e3a1d564d40f3df34bb6761935e0f8206e3980c5c", func := "downtilt/downtiltlaw08.MoveTriggers", spec := "moveTriggers", inPlace := ["internal/abi.NoEscape", "internal/bytealg.MakeNoZero"], unfollowed := true, recurses := true, named := ["downtilt/move.kinds", "internal/strconv.uint64pow10", "math/bits.deBruijn32tab", "math/bits.deBruijn64tab"], apart := false, laid := [("math/bits.deBruijn32tab", laid_math_bits_deBruijn32tab), ("math/bits.deBruijn64tab", laid_math_bits_deBruijn64tab), ("internal/strconv.uint64pow10", laid_internal_strconv_uint64pow10), ("downtilt/move.kinds", laid_downtilt_move_kinds)], narrowed := true }
def MoveTriggersUptoSaid : Prop := moveTriggersUptoRow.holds Tryz.pinned (OpenSpec.upto moveTriggersSpec)

/-- 'downtiltlaw08.MoveLater', WHERE WHAT IT READS IS OF BULK AT MOST 1048576: true; the input reads as it did. -/
def moveLaterUptoRow : OpenClaim := { program := "ytcbabnbiinkafaagreatdoor", sum := "ecc22b0e592d6bfc6a19392e3a1d564d40f3df34bb6761935e0f8206e3980c5c", func := "downtilt/downtiltlaw08.MoveLater", spec := "moveLater", inPlace := ["internal/abi.NoEscape", "internal/bytealg.MakeNoZero"], unfollowed := true, recurses := true, named := ["downtilt/move.kinds", "internal/strconv.uint64pow10", "math/bits.deBruijn32tab", "math/bits.deBruijn64tab"], apart := false, laid := [("math/bits.deBruijn32tab", laid_math_bits_deBruijn32tab), ("math/bits.deBruijn64tab", laid_math_bits_deBruijn64tab), ("internal/strconv.uint64pow10", laid_internal_strconv_uint64pow10), ("downtilt/move.kinds", laid_downtilt_move_kinds)], narrowed := true }
def MoveLaterUptoSaid : Prop := moveLaterUptoRow.holds Tryz.pinned (OpenSpec.upto moveLaterSpec)

/-- 'downtiltlaw08.MoveReplays', WHERE WHAT IT READS IS OF BULK AT MOST 1048576: true; the input reads as it did. -/
def moveReplaysUptoRow : OpenClaim := { program := "ytcbabnbiinkafaagreatdoor", sum := "ecc22b0e592d6bfc6a19392e3a1d564d40f3df34bb6761935e0f8206e3980c5c", func := "downtilt/downtiltlaw08.MoveReplays", spec := "moveReplays", inPlace := ["internal/abi.NoEscape", "internal/bytealg.MakeNoZero"], unfollowed := true, recurses := true, named := ["downtilt/move.kinds", "internal/strconv.uint64pow10", "math/bits.deBruijn32tab", "math/bits.deBruijn64tab"], apart := false, laid := [("math/bits.deBruijn32tab", laid_math_bits_deBruijn32tab), ("math/bits.deBruijn64tab", laid_math_bits_deBruijn64tab), ("internal/strconv.uint64pow10", laid_internal_strconv_uint64pow10), ("downtilt/move.kinds", laid_downtilt_move_kinds)], narrowed := true }
def MoveReplaysUptoSaid : Prop := moveReplaysUptoRow.holds Tryz.pinned (OpenSpec.upto moveReplaysSpec)

/-- 'downtiltlaw08.MovePingPongs', WHERE WHAT IT READS IS OF BULK AT MOST 1048576: true; the input reads as it did. -/
def movePingPongsUptoRow : OpenClaim := { program := "ytcbabnbiinkafaagreatdoor", sum := "ecc22b0e592d6bfc6a19392e3a1d564d40f3df34bb6761935e0f8206e3980c5c", func := "downtilt/downtiltlaw08.MovePingPongs", spec := "movePingPongs", inPlace := ["internal/abi.NoEscape", "internal/bytealg.MakeNoZero"], unfollowed := true, recurses := true, named := ["downtilt/move.kinds", "internal/strconv.uint64pow10", "math/bits.deBruijn32tab", "math/bits.deBruijn64tab"], apart := false, laid := [("math/bits.deBruijn32tab", laid_math_bits_deBruijn32tab), ("math/bits.deBruijn64tab", laid_math_bits_deBruijn64tab), ("internal/strconv.uint64pow10", laid_internal_strconv_uint64pow10), ("downtilt/move.kinds", laid_downtilt_move_kinds)], narrowed := true }
def MovePingPongsUptoSaid : Prop := movePingPongsUptoRow.holds Tryz.pinned (OpenSpec.upto movePingPongsSpec)

/-- 'downtiltlaw08.MoveNetworks', WHERE WHAT IT READS IS OF BULK AT MOST 1048576: true; the input reads as it did. -/
def moveNetworksUptoRow : OpenClaim := { program := "ytcbabnbiinkafaagreatdoor", sum := "ecc22b0e592d6bfc6a19392e3a1d564d40f3df34bb6761935e0f8206e3980c5c", func := "downtilt/downtiltlaw08.MoveNetworks", spec := "moveNetworks", inPlace := ["internal/abi.NoEscape", "internal/bytealg.MakeNoZero"], unfollowed := true, recurses := true, named := ["downtilt/move.kinds", "internal/strconv.uint64pow10", "math/bits.deBruijn32tab", "math/bits.deBruijn64tab"], apart := false, laid := [("math/bits.deBruijn32tab", laid_math_bits_deBruijn32tab), ("math/bits.deBruijn64tab", laid_math_bits_deBruijn64tab), ("internal/strconv.uint64pow10", laid_internal_strconv_uint64pow10), ("downtilt/move.kinds", laid_downtilt_move_kinds)], narrowed := true }
def MoveNetworksUptoSaid : Prop := moveNetworksUptoRow.holds Tryz.pinned (OpenSpec.upto moveNetworksSpec)

/-- 'downtiltlaw08.MoveLess', WHERE WHAT IT READS IS OF BULK AT MOST 1048576: true; the input reads as it did. -/
def moveLessUptoRow : OpenClaim := { program := "ytcbabnbiinkafaagreatdoor", sum := "ecc22b0e592d6bfc6a19392e3a1d564d40f3df34bb6761935e0f8206e3980c5c", func := "downtilt/downtiltlaw08.MoveLess", spec := "moveLess", inPlace := ["internal/abi.NoEscape", "internal/bytealg.MakeNoZero"], unfollowed := true, recurses := true, named := ["downtilt/move.kinds", "internal/strconv.uint64pow10", "math/bits.deBruijn32tab", "math/bits.deBruijn64tab"], apart := false, laid := [("math/bits.deBruijn32tab", laid_math_bits_deBruijn32tab), ("math/bits.deBruijn64tab", laid_math_bits_deBruijn64tab), ("internal/strconv.uint64pow10", laid_internal_strconv_uint64pow10), ("downtilt/move.kinds", laid_downtilt_move_kinds)], narrowed := true }
def MoveLessUptoSaid : Prop := moveLessUptoRow.holds Tryz.pinned (OpenSpec.upto moveLessSpec)

/-- 'downtiltlaw08.MoveStays', WHERE WHAT IT READS IS OF BULK AT MOST 1048576: true; the input reads as it did. -/
def moveStaysUptoRow : OpenClaim := { program := "ytcbabnbiinkafaagreatdoor", sum := "ecc22b0e592d6bfc6a19392e3a1d564d40f3df34bb6761935e0f8206e3980c5c", func := "downtilt/downtiltlaw08.MoveStays", spec := "moveStays", inPlace := ["internal/abi.NoEscape", "internal/bytealg.MakeNoZero"], unfollowed := true, recurses := true, named := ["downtilt/move.kinds", "internal/strconv.uint64pow10", "math/bits.deBruijn32tab", "math/bits.deBruijn64tab"], apart := false, laid := [("math/bits.deBruijn32tab", laid_math_bits_deBruijn32tab), ("math/bits.deBruijn64tab", laid_math_bits_deBruijn64tab), ("internal/strconv.uint64pow10", laid_internal_strconv_uint64pow10), ("downtilt/move.kinds", laid_downtilt_move_kinds)], narrowed := true }
def MoveStaysUptoSaid : Prop := moveStaysUptoRow.holds Tryz.pinned (OpenSpec.upto moveStaysSpec)

/-- 'downtiltlaw08.MoveStrongest', WHERE WHAT IT READS IS OF BULK AT MOST 1048576: true; the input reads as it did. -/
def moveStrongestUptoRow : OpenClaim := { program := "ytcbabnbiinkafaagreatdoor", sum := "ecc22b0e592d6bfc6a19392e3a1d564d40f3df34bb6761935e0f8206e3980c5c", func := "downtilt/downtiltlaw08.MoveStrongest", spec := "moveStrongest", inPlace := ["internal/abi.NoEscape", "internal/bytealg.MakeNoZero"], unfollowed := true, recurses := true, named := ["downtilt/move.kinds", "internal/strconv.uint64pow10", "math/bits.deBruijn32tab", "math/bits.deBruijn64tab"], apart := false, laid := [("math/bits.deBruijn32tab", laid_math_bits_deBruijn32tab), ("math/bits.deBruijn64tab", laid_math_bits_deBruijn64tab), ("internal/strconv.uint64pow10", laid_internal_strconv_uint64pow10), ("downtilt/move.kinds", laid_downtilt_move_kinds)], narrowed := true }
def MoveStrongestUptoSaid : Prop := moveStrongestUptoRow.holds Tryz.pinned (OpenSpec.upto moveStrongestSpec)

/-- 'downtiltlaw08.MoveStates', WHERE WHAT IT READS IS OF BULK AT MOST 1048576: true; the input reads as it did. -/
def moveStatesUptoRow : OpenClaim := { program := "ytcbabnbiinkafaagreatdoor", sum := "ecc22b0e592d6bfc6a19392e3a1d564d40f3df34bb6761935e0f8206e3980c5c", func := "downtilt/downtiltlaw08.MoveStates", spec := "moveStates", inPlace := ["internal/abi.NoEscape", "internal/bytealg.MakeNoZero"], unfollowed := true, recurses := true, named := ["downtilt/move.kinds", "internal/strconv.uint64pow10", "math/bits.deBruijn32tab", "math/bits.deBruijn64tab"], apart := false, laid := [("math/bits.deBruijn32tab", laid_math_bits_deBruijn32tab), ("math/bits.deBruijn64tab", laid_math_bits_deBruijn64tab), ("internal/strconv.uint64pow10", laid_internal_strconv_uint64pow10), ("downtilt/move.kinds", laid_downtilt_move_kinds)], narrowed := true }
def MoveStatesUptoSaid : Prop := moveStatesUptoRow.holds Tryz.pinned (OpenSpec.upto moveStatesSpec)

/-- 'downtiltlaw08.MoveApplies', WHERE WHAT IT READS IS OF BULK AT MOST 1048576: true; the input reads as it did. -/
def moveAppliesUptoRow : OpenClaim := { program := "ytcbabnbiinkafaagreatdoor", sum := "ecc22b0e592d6bfc6a19392e3a1d564d40f3df34bb6761935e0f8206e3980c5c", func := "downtilt/downtiltlaw08.MoveApplies", spec := "moveApplies", inPlace := ["internal/abi.NoEscape", "internal/bytealg.MakeNoZero"], unfollowed := true, recurses := true, named := ["downtilt/move.kinds", "internal/strconv.uint64pow10", "math/bits.deBruijn32tab", "math/bits.deBruijn64tab"], apart := false, laid := [("math/bits.deBruijn32tab", laid_math_bits_deBruijn32tab), ("math/bits.deBruijn64tab", laid_math_bits_deBruijn64tab), ("internal/strconv.uint64pow10", laid_internal_strconv_uint64pow10), ("downtilt/move.kinds", laid_downtilt_move_kinds)], narrowed := true }
def MoveAppliesUptoSaid : Prop := moveAppliesUptoRow.holds Tryz.pinned (OpenSpec.upto moveAppliesSpec)

/-- 'downtiltlaw08.MoveOnce', WHERE WHAT IT READS IS OF BULK AT MOST 1048576: true; the input reads as it did. -/
def moveOnceUptoRow : OpenClaim := { program := "ytcbabnbiinkafaagreatdoor", sum := "ecc22b0e592d6bfc6a19392e3a1d564d40f3df34bb6761935e0f8206e3980c5c", func := "downtilt/downtiltlaw08.MoveOnce", spec := "moveOnce", inPlace := ["internal/abi.NoEscape", "internal/bytealg.MakeNoZero"], unfollowed := true, recurses := true, named := ["downtilt/move.kinds", "internal/strconv.uint64pow10", "math/bits.deBruijn32tab", "math/bits.deBruijn64tab"], apart := false, laid := [("math/bits.deBruijn32tab", laid_math_bits_deBruijn32tab), ("math/bits.deBruijn64tab", laid_math_bits_deBruijn64tab), ("internal/strconv.uint64pow10", laid_internal_strconv_uint64pow10), ("downtilt/move.kinds", laid_downtilt_move_kinds)], narrowed := true }
def MoveOnceUptoSaid : Prop := moveOnceUptoRow.holds Tryz.pinned (OpenSpec.upto moveOnceSpec)

/-- 'downtiltlaw08.MoveWaits', WHERE WHAT IT READS IS OF BULK AT MOST 1048576: true; the input reads as it did. -/
def moveWaitsUptoRow : OpenClaim := { program := "ytcbabnbiinkafaagreatdoor", sum := "ecc22b0e592d6bfc6a19392e3a1d564d40f3df34bb6761935e0f8206e3980c5c", func := "downtilt/downtiltlaw08.MoveWaits", spec := "moveWaits", inPlace := ["internal/abi.NoEscape", "internal/bytealg.MakeNoZero"], unfollowed := true, recurses := true, named := ["downtilt/move.kinds", "internal/strconv.uint64pow10", "math/bits.deBruijn32tab", "math/bits.deBruijn64tab"], apart := false, laid := [("math/bits.deBruijn32tab", laid_math_bits_deBruijn32tab), ("math/bits.deBruijn64tab", laid_math_bits_deBruijn64tab), ("internal/strconv.uint64pow10", laid_internal_strconv_uint64pow10), ("downtilt/move.kinds", laid_downtilt_move_kinds)], narrowed := true }
def MoveWaitsUptoSaid : Prop := moveWaitsUptoRow.holds Tryz.pinned (OpenSpec.upto moveWaitsSpec)

/-- 'downtiltlaw08.MoveKept', WHERE WHAT IT READS IS OF BULK AT MOST 1048576: true; the input reads as it did. -/
def moveKeptUptoRow : OpenClaim := { program := "ytcbabnbiinkafaagreatdoor", sum := "ecc22b0e592d6bfc6a19392e3a1d564d40f3df34bb6761935e0f8206e3980c5c", func := "downtilt/downtiltlaw08.MoveKept", spec := "moveKept", inPlace := ["internal/abi.NoEscape", "internal/bytealg.MakeNoZero"], unfollowed := true, recurses := true, named := ["downtilt/move.kinds", "internal/strconv.uint64pow10", "math/bits.deBruijn32tab", "math/bits.deBruijn64tab"], apart := false, laid := [("math/bits.deBruijn32tab", laid_math_bits_deBruijn32tab), ("math/bits.deBruijn64tab", laid_math_bits_deBruijn64tab), ("internal/strconv.uint64pow10", laid_internal_strconv_uint64pow10), ("downtilt/move.kinds", laid_downtilt_move_kinds)], narrowed := true }
def MoveKeptUptoSaid : Prop := moveKeptUptoRow.holds Tryz.pinned (OpenSpec.upto moveKeptSpec)

/-- 'downtiltlaw08.MovePossible', WHERE WHAT IT READS IS OF BULK AT MOST 1048576: true; the input reads as it did. -/
def movePossibleUptoRow : OpenClaim := { program := "ytcbabnbiinkafaagreatdoor", sum := "ecc22b0e592d6bfc6a19392e3a1d564d40f3df34bb6761935e0f8206e3980c5c", func := "downtilt/downtiltlaw08.MovePossible", spec := "movePossible", inPlace := ["internal/abi.NoEscape", "internal/bytealg.MakeNoZero"], unfollowed := true, recurses := true, named := ["downtilt/move.kinds", "internal/strconv.uint64pow10", "math/bits.deBruijn32tab", "math/bits.deBruijn64tab"], apart := false, laid := [("math/bits.deBruijn32tab", laid_math_bits_deBruijn32tab), ("math/bits.deBruijn64tab", laid_math_bits_deBruijn64tab), ("internal/strconv.uint64pow10", laid_internal_strconv_uint64pow10), ("downtilt/move.kinds", laid_downtilt_move_kinds)], narrowed := true }
def MovePossibleUptoSaid : Prop := movePossibleUptoRow.holds Tryz.pinned (OpenSpec.upto movePossibleSpec)

/-- 'downtiltlaw08.MoveTexts', WHERE WHAT IT READS IS OF BULK AT MOST 1048576: true; the input reads as it did. -/
def moveTextsUptoRow : OpenClaim := { program := "ytcbabnbiinkafaagreatdoor", sum := "ecc22b0e592d6bfc6a19392e3a1d564d40f3df34bb6761935e0f8206e3980c5c", func := "downtilt/downtiltlaw08.MoveTexts", spec := "moveTexts", inPlace := ["internal/abi.NoEscape", "internal/bytealg.MakeNoZero", "internal/bytealg.IndexByteString", "internal/bytealg.IndexString", "internal/bytealg.CountString"], unfollowed := true, recurses := true, named := ["downtilt/move.kinds", "internal/strconv.uint64pow10", "math/bits.deBruijn32tab", "math/bits.deBruijn64tab", "internal/bytealg.MaxLen", "unicode/utf8.first", "unicode/utf8.acceptRanges", "strconv.ErrSyntax", "strconv.ErrRange"], apart := false, laid := [("math/bits.deBruijn32tab", laid_math_bits_deBruijn32tab), ("math/bits.deBruijn64tab", laid_math_bits_deBruijn64tab), ("internal/strconv.uint64pow10", laid_internal_strconv_uint64pow10), ("unicode/utf8.acceptRanges", laid_unicode_utf8_acceptRanges), ("strconv.ErrRange", laid_strconv_ErrRange), ("strconv.ErrSyntax", laid_strconv_ErrSyntax), ("downtilt/move.kinds", laid_downtilt_move_kinds), ("unicode/utf8.first", laid_unicode_utf8_first)], narrowed := true }
def MoveTextsUptoSaid : Prop := moveTextsUptoRow.holds Tryz.pinned (OpenSpec.upto moveTextsSpec)

/-- 'downtilttop.TopMoveOnceInOrder', WHERE WHAT IT READS IS OF BULK AT MOST 1048576: true; the input reads as it did. -/
def topMoveOnceInOrderUptoRow : OpenClaim := { program := "ytcbabnbiinkafaagreatdoor", sum := "ecc22b0e592d6bfc6a19392e3a1d564d40f3df34bb6761935e0f8206e3980c5c", func := "downtilt/downtilttop.TopMoveOnceInOrder", spec := "topMoveOnceInOrder", inPlace := ["internal/abi.NoEscape", "internal/bytealg.MakeNoZero"], unfollowed := true, recurses := true, named := ["downtilt/move.kinds", "internal/strconv.uint64pow10", "math/bits.deBruijn32tab", "math/bits.deBruijn64tab"], apart := false, laid := [("math/bits.deBruijn32tab", laid_math_bits_deBruijn32tab), ("math/bits.deBruijn64tab", laid_math_bits_deBruijn64tab), ("internal/strconv.uint64pow10", laid_internal_strconv_uint64pow10), ("downtilt/move.kinds", laid_downtilt_move_kinds)], narrowed := true }
def TopMoveOnceInOrderUptoSaid : Prop := topMoveOnceInOrderUptoRow.holds Tryz.pinned (OpenSpec.upto topMoveOnceInOrderSpec)

/-- 'downtilttop.TopMoveConnectedAgain', WHERE WHAT IT READS IS OF BULK AT MOST 1048576: true; the input reads as it did. -/
def topMoveConnectedAgainUptoRow : OpenClaim := { program := "ytcbabnbiinkafaagreatdoor", sum := "ecc22b0e592d6bfc6a19392e3a1d564d40f3df34bb6761935e0f8206e3980c5c", func := "downtilt/downtilttop.TopMoveConnectedAgain", spec := "topMoveConnectedAgain", inPlace := ["internal/abi.NoEscape", "internal/bytealg.MakeNoZero"], unfollowed := true, recurses := true, named := ["downtilt/move.kinds", "internal/strconv.uint64pow10", "math/bits.deBruijn32tab", "math/bits.deBruijn64tab"], apart := false, laid := [("math/bits.deBruijn32tab", laid_math_bits_deBruijn32tab), ("math/bits.deBruijn64tab", laid_math_bits_deBruijn64tab), ("internal/strconv.uint64pow10", laid_internal_strconv_uint64pow10), ("downtilt/move.kinds", laid_downtilt_move_kinds)], narrowed := true }
def TopMoveConnectedAgainUptoSaid : Prop := topMoveConnectedAgainUptoRow.holds Tryz.pinned (OpenSpec.upto topMoveConnectedAgainSpec)

/-- 'downtilttop.TopMoveTold', WHERE WHAT IT READS IS OF BULK AT MOST 1048576: true; the input reads as it did. -/
def topMoveToldUptoRow : OpenClaim := { program := "ytcbabnbiinkafaagreatdoor", sum := "ecc22b0e592d6bfc6a19392e3a1d564d40f3df34bb6761935e0f8206e3980c5c", func := "downtilt/downtilttop.TopMoveTold", spec := "topMoveTold", inPlace := ["internal/abi.NoEscape", "internal/bytealg.MakeNoZero", "internal/bytealg.IndexByteString", "internal/bytealg.IndexString", "internal/bytealg.CountString"], unfollowed := true, recurses := true, named := ["downtilt/move.kinds", "internal/strconv.uint64pow10", "math/bits.deBruijn32tab", "math/bits.deBruijn64tab", "internal/bytealg.MaxLen", "unicode/utf8.first", "unicode/utf8.acceptRanges", "strconv.ErrSyntax", "strconv.ErrRange"], apart := false, laid := [("math/bits.deBruijn32tab", laid_math_bits_deBruijn32tab), ("math/bits.deBruijn64tab", laid_math_bits_deBruijn64tab), ("internal/strconv.uint64pow10", laid_internal_strconv_uint64pow10), ("unicode/utf8.acceptRanges", laid_unicode_utf8_acceptRanges), ("strconv.ErrRange", laid_strconv_ErrRange), ("strconv.ErrSyntax", laid_strconv_ErrSyntax), ("downtilt/move.kinds", laid_downtilt_move_kinds), ("unicode/utf8.first", laid_unicode_utf8_first)], narrowed := true }
def TopMoveToldUptoSaid : Prop := topMoveToldUptoRow.holds Tryz.pinned (OpenSpec.upto topMoveToldSpec)

end Rows
end Go.Proofs.YtcbabnbiinkafaaGreatDoor
