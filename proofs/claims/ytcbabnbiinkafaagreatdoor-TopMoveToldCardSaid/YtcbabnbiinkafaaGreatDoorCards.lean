/-
  DERIVED. GIVEN WITH THE SEED: THE CARDS: each row of YtcbabnbiinkafaaGreatDoorRows.lean that lists a variable, with what it lists TIED to the program's text (the seventh form; the later family's looks); each row that meets fmt, with fmt's text TOLD by the authors' own Lean function (tested against real Go, not proved from fmt's source: count such statements apart). THE CARD IS WHAT COUNTS. Prove the row's statement (the work); the ties are given (YtcbabnbiinkafaaGreatDoorTie.lean); close each card by the builder's one call (the guide's Derived/Test/ToyasCard.lean, 'card_holds'). Laid BY PROGRAM, IN A SANDBOX (cutbox-door.mjs). By AI agents, Wed Nov 11 2026. No macro, syntax, notation, axiom, sorry.
-/
import Derived.Test.YtcbabnbiinkafaaGreatDoorRows
import GoSem.ClaimSeven
namespace Go.Proofs.YtcbabnbiinkafaaGreatDoor
namespace Rows

/-- THE TIED CARD OF 'downtiltlaw08.MoveTriggers'. -/
def moveTriggersCard : Claim7 := { stood := { row := moveTriggersRow, standIns := [], harness := (true, "d069a4c99b5968b22d28cac5c5c755306057ef9b993700109f48ee8aa45049f1"), looks := true }, kinds := [], alts := [], laidByText := true, laidKinds := [.data, .data, .data, .funcsDeep], laidTests := true, laidLooks := .later }
def MoveTriggersCardSaid : Prop := Claim7.holds Tryz.pinned (.plain (OpenSpec.ofChange moveTriggersSpec)) moveTriggersCard

/-- THE TIED CARD OF 'downtiltlaw08.MoveLater'. -/
def moveLaterCard : Claim7 := { stood := { row := moveLaterRow, standIns := [], harness := (true, "d069a4c99b5968b22d28cac5c5c755306057ef9b993700109f48ee8aa45049f1"), looks := true }, kinds := [], alts := [], laidByText := true, laidKinds := [.data, .data, .data, .funcsDeep], laidTests := true, laidLooks := .later }
def MoveLaterCardSaid : Prop := Claim7.holds Tryz.pinned (.plain (OpenSpec.ofChange moveLaterSpec)) moveLaterCard

/-- THE TIED CARD OF 'downtiltlaw08.MoveReplays'. -/
def moveReplaysCard : Claim7 := { stood := { row := moveReplaysRow, standIns := [], harness := (true, "d069a4c99b5968b22d28cac5c5c755306057ef9b993700109f48ee8aa45049f1"), looks := true }, kinds := [], alts := [], laidByText := true, laidKinds := [.data, .data, .data, .funcsDeep], laidTests := true, laidLooks := .later }
def MoveReplaysCardSaid : Prop := Claim7.holds Tryz.pinned (.plain (OpenSpec.ofChange moveReplaysSpec)) moveReplaysCard

/-- THE TIED CARD OF 'downtiltlaw08.MovePingPongs'. -/
def movePingPongsCard : Claim7 := { stood := { row := movePingPongsRow, standIns := [], harness := (true, "d069a4c99b5968b22d28cac5c5c755306057ef9b993700109f48ee8aa45049f1"), looks := true }, kinds := [], alts := [], laidByText := true, laidKinds := [.data, .data, .data, .funcsDeep], laidTests := true, laidLooks := .later }
def MovePingPongsCardSaid : Prop := Claim7.holds Tryz.pinned (.plain (OpenSpec.ofChange movePingPongsSpec)) movePingPongsCard

/-- THE TIED CARD OF 'downtiltlaw08.MoveNetworks'. -/
def moveNetworksCard : Claim7 := { stood := { row := moveNetworksRow, standIns := [], harness := (true, "d069a4c99b5968b22d28cac5c5c755306057ef9b993700109f48ee8aa45049f1"), looks := true }, kinds := [], alts := [], laidByText := true, laidKinds := [.data, .data, .data, .funcsDeep], laidTests := true, laidLooks := .later }
def MoveNetworksCardSaid : Prop := Claim7.holds Tryz.pinned (.plain (OpenSpec.ofChange moveNetworksSpec)) moveNetworksCard

/-- THE TIED CARD OF 'downtiltlaw08.MoveLess'. -/
def moveLessCard : Claim7 := { stood := { row := moveLessRow, standIns := [], harness := (true, "d069a4c99b5968b22d28cac5c5c755306057ef9b993700109f48ee8aa45049f1"), looks := true }, kinds := [], alts := [], laidByText := true, laidKinds := [.data, .data, .data, .funcsDeep], laidTests := true, laidLooks := .later }
def MoveLessCardSaid : Prop := Claim7.holds Tryz.pinned (.plain (OpenSpec.ofChange moveLessSpec)) moveLessCard

/-- THE TIED CARD OF 'downtiltlaw08.MoveStays'. -/
def moveStaysCard : Claim7 := { stood := { row := moveStaysRow, standIns := [], harness := (true, "d069a4c99b5968b22d28cac5c5c755306057ef9b993700109f48ee8aa45049f1"), looks := true }, kinds := [], alts := [], laidByText := true, laidKinds := [.data, .data, .data, .funcsDeep], laidTests := true, laidLooks := .later }
def MoveStaysCardSaid : Prop := Claim7.holds Tryz.pinned (.plain (OpenSpec.ofChange moveStaysSpec)) moveStaysCard

/-- THE TIED CARD OF 'downtiltlaw08.MoveStrongest'. -/
def moveStrongestCard : Claim7 := { stood := { row := moveStrongestRow, standIns := [], harness := (true, "d069a4c99b5968b22d28cac5c5c755306057ef9b993700109f48ee8aa45049f1"), looks := true }, kinds := [], alts := [], laidByText := true, laidKinds := [.data, .data, .data, .funcsDeep], laidTests := true, laidLooks := .later }
def MoveStrongestCardSaid : Prop := Claim7.holds Tryz.pinned (.plain (OpenSpec.ofChange moveStrongestSpec)) moveStrongestCard

/-- THE TIED CARD OF 'downtiltlaw08.MoveStates'. -/
def moveStatesCard : Claim7 := { stood := { row := moveStatesRow, standIns := [], harness := (true, "d069a4c99b5968b22d28cac5c5c755306057ef9b993700109f48ee8aa45049f1"), looks := true }, kinds := [], alts := [], laidByText := true, laidKinds := [.data, .data, .data, .funcsDeep], laidTests := true, laidLooks := .later }
def MoveStatesCardSaid : Prop := Claim7.holds Tryz.pinned (.plain (OpenSpec.ofChange moveStatesSpec)) moveStatesCard

/-- THE TIED CARD OF 'downtiltlaw08.MoveApplies'. -/
def moveAppliesCard : Claim7 := { stood := { row := moveAppliesRow, standIns := [], harness := (true, "d069a4c99b5968b22d28cac5c5c755306057ef9b993700109f48ee8aa45049f1"), looks := true }, kinds := [], alts := [], laidByText := true, laidKinds := [.data, .data, .data, .funcsDeep], laidTests := true, laidLooks := .later }
def MoveAppliesCardSaid : Prop := Claim7.holds Tryz.pinned (.plain (OpenSpec.ofChange moveAppliesSpec)) moveAppliesCard

/-- THE TIED CARD OF 'downtiltlaw08.MoveOnce'. -/
def moveOnceCard : Claim7 := { stood := { row := moveOnceRow, standIns := [], harness := (true, "d069a4c99b5968b22d28cac5c5c755306057ef9b993700109f48ee8aa45049f1"), looks := true }, kinds := [], alts := [], laidByText := true, laidKinds := [.data, .data, .data, .funcsDeep], laidTests := true, laidLooks := .later }
def MoveOnceCardSaid : Prop := Claim7.holds Tryz.pinned (.plain (OpenSpec.ofChange moveOnceSpec)) moveOnceCard

/-- THE TIED CARD OF 'downtiltlaw08.MoveWaits'. -/
def moveWaitsCard : Claim7 := { stood := { row := moveWaitsRow, standIns := [], harness := (true, "d069a4c99b5968b22d28cac5c5c755306057ef9b993700109f48ee8aa45049f1"), looks := true }, kinds := [], alts := [], laidByText := true, laidKinds := [.data, .data, .data, .funcsDeep], laidTests := true, laidLooks := .later }
def MoveWaitsCardSaid : Prop := Claim7.holds Tryz.pinned (.plain (OpenSpec.ofChange moveWaitsSpec)) moveWaitsCard

/-- THE TIED CARD OF 'downtiltlaw08.MoveKept'. -/
def moveKeptCard : Claim7 := { stood := { row := moveKeptRow, standIns := [], harness := (true, "d069a4c99b5968b22d28cac5c5c755306057ef9b993700109f48ee8aa45049f1"), looks := true }, kinds := [], alts := [], laidByText := true, laidKinds := [.data, .data, .data, .funcsDeep], laidTests := true, laidLooks := .later }
def MoveKeptCardSaid : Prop := Claim7.holds Tryz.pinned (.plain (OpenSpec.ofChange moveKeptSpec)) moveKeptCard

/-- THE TIED CARD OF 'downtiltlaw08.MovePossible'. -/
def movePossibleCard : Claim7 := { stood := { row := movePossibleRow, standIns := [], harness := (true, "d069a4c99b5968b22d28cac5c5c755306057ef9b993700109f48ee8aa45049f1"), looks := true }, kinds := [], alts := [], laidByText := true, laidKinds := [.data, .data, .data, .funcsDeep], laidTests := true, laidLooks := .later }
def MovePossibleCardSaid : Prop := Claim7.holds Tryz.pinned (.plain (OpenSpec.ofChange movePossibleSpec)) movePossibleCard

/-- THE TIED CARD OF 'downtiltlaw08.MoveTexts'. -/
def moveTextsCard : Claim7 := { stood := { row := moveTextsRow, standIns := [], harness := (true, "d069a4c99b5968b22d28cac5c5c755306057ef9b993700109f48ee8aa45049f1"), looks := true }, kinds := [], alts := [], laidByText := true, laidKinds := [.data, .data, .data, .data, .sentinel, .sentinel, .funcsDeep, .pinned], laidTests := true, laidLooks := .later }
def MoveTextsCardSaid : Prop := Claim7.holds Tryz.pinned (.plain (OpenSpec.ofChange moveTextsSpec)) moveTextsCard

/-- THE TIED CARD OF 'downtilttop.TopMoveOnceInOrder'. -/
def topMoveOnceInOrderCard : Claim7 := { stood := { row := topMoveOnceInOrderRow, standIns := [], harness := (true, "d069a4c99b5968b22d28cac5c5c755306057ef9b993700109f48ee8aa45049f1"), looks := true }, kinds := [], alts := [], laidByText := true, laidKinds := [.data, .data, .data, .funcsDeep], laidTests := true, laidLooks := .later }
def TopMoveOnceInOrderCardSaid : Prop := Claim7.holds Tryz.pinned (.plain (OpenSpec.ofChange topMoveOnceInOrderSpec)) topMoveOnceInOrderCard

/-- THE TIED CARD OF 'downtilttop.TopMoveConnectedAgain'. -/
def topMoveConnectedAgainCard : Claim7 := { stood := { row := topMoveConnectedAgainRow, standIns := [], harness := (true, "d069a4c99b5968b22d28cac5c5c755306057ef9b993700109f48ee8aa45049f1"), looks := true }, kinds := [], alts := [], laidByText := true, laidKinds := [.data, .data, .data, .funcsDeep], laidTests := true, laidLooks := .later }
def TopMoveConnectedAgainCardSaid : Prop := Claim7.holds Tryz.pinned (.plain (OpenSpec.ofChange topMoveConnectedAgainSpec)) topMoveConnectedAgainCard

/-- THE TIED CARD OF 'downtilttop.TopMoveTold'. -/
def topMoveToldCard : Claim7 := { stood := { row := topMoveToldRow, standIns := [], harness := (true, "d069a4c99b5968b22d28cac5c5c755306057ef9b993700109f48ee8aa45049f1"), looks := true }, kinds := [], alts := [], laidByText := true, laidKinds := [.data, .data, .data, .data, .sentinel, .sentinel, .funcsDeep, .pinned], laidTests := true, laidLooks := .later }
def TopMoveToldCardSaid : Prop := Claim7.holds Tryz.pinned (.plain (OpenSpec.ofChange topMoveToldSpec)) topMoveToldCard

/-- THE SECOND FORM's CARD OF 'downtiltlaw08.MoveTriggers'. -/
def moveTriggersUptoCard : Claim7 := { stood := { row := moveTriggersUptoRow, standIns := [], harness := (true, "d069a4c99b5968b22d28cac5c5c755306057ef9b993700109f48ee8aa45049f1"), looks := true }, kinds := [], alts := [], laidByText := true, laidKinds := [.data, .data, .data, .funcsDeep], laidTests := true, laidLooks := .later }
def MoveTriggersUptoCardSaid : Prop := Claim7.holds Tryz.pinned (.plain (OpenSpec.upto moveTriggersSpec)) moveTriggersUptoCard

/-- THE SECOND FORM's CARD OF 'downtiltlaw08.MoveLater'. -/
def moveLaterUptoCard : Claim7 := { stood := { row := moveLaterUptoRow, standIns := [], harness := (true, "d069a4c99b5968b22d28cac5c5c755306057ef9b993700109f48ee8aa45049f1"), looks := true }, kinds := [], alts := [], laidByText := true, laidKinds := [.data, .data, .data, .funcsDeep], laidTests := true, laidLooks := .later }
def MoveLaterUptoCardSaid : Prop := Claim7.holds Tryz.pinned (.plain (OpenSpec.upto moveLaterSpec)) moveLaterUptoCard

/-- THE SECOND FORM's CARD OF 'downtiltlaw08.MoveReplays'. -/
def moveReplaysUptoCard : Claim7 := { stood := { row := moveReplaysUptoRow, standIns := [], harness := (true, "d069a4c99b5968b22d28cac5c5c755306057ef9b993700109f48ee8aa45049f1"), looks := true }, kinds := [], alts := [], laidByText := true, laidKinds := [.data, .data, .data, .funcsDeep], laidTests := true, laidLooks := .later }
def MoveReplaysUptoCardSaid : Prop := Claim7.holds Tryz.pinned (.plain (OpenSpec.upto moveReplaysSpec)) moveReplaysUptoCard

/-- THE SECOND FORM's CARD OF 'downtiltlaw08.MovePingPongs'. -/
def movePingPongsUptoCard : Claim7 := { stood := { row := movePingPongsUptoRow, standIns := [], harness := (true, "d069a4c99b5968b22d28cac5c5c755306057ef9b993700109f48ee8aa45049f1"), looks := true }, kinds := [], alts := [], laidByText := true, laidKinds := [.data, .data, .data, .funcsDeep], laidTests := true, laidLooks := .later }
def MovePingPongsUptoCardSaid : Prop := Claim7.holds Tryz.pinned (.plain (OpenSpec.upto movePingPongsSpec)) movePingPongsUptoCard

/-- THE SECOND FORM's CARD OF 'downtiltlaw08.MoveNetworks'. -/
def moveNetworksUptoCard : Claim7 := { stood := { row := moveNetworksUptoRow, standIns := [], harness := (true, "d069a4c99b5968b22d28cac5c5c755306057ef9b993700109f48ee8aa45049f1"), looks := true }, kinds := [], alts := [], laidByText := true, laidKinds := [.data, .data, .data, .funcsDeep], laidTests := true, laidLooks := .later }
def MoveNetworksUptoCardSaid : Prop := Claim7.holds Tryz.pinned (.plain (OpenSpec.upto moveNetworksSpec)) moveNetworksUptoCard

/-- THE SECOND FORM's CARD OF 'downtiltlaw08.MoveLess'. -/
def moveLessUptoCard : Claim7 := { stood := { row := moveLessUptoRow, standIns := [], harness := (true, "d069a4c99b5968b22d28cac5c5c755306057ef9b993700109f48ee8aa45049f1"), looks := true }, kinds := [], alts := [], laidByText := true, laidKinds := [.data, .data, .data, .funcsDeep], laidTests := true, laidLooks := .later }
def MoveLessUptoCardSaid : Prop := Claim7.holds Tryz.pinned (.plain (OpenSpec.upto moveLessSpec)) moveLessUptoCard

/-- THE SECOND FORM's CARD OF 'downtiltlaw08.MoveStays'. -/
def moveStaysUptoCard : Claim7 := { stood := { row := moveStaysUptoRow, standIns := [], harness := (true, "d069a4c99b5968b22d28cac5c5c755306057ef9b993700109f48ee8aa45049f1"), looks := true }, kinds := [], alts := [], laidByText := true, laidKinds := [.data, .data, .data, .funcsDeep], laidTests := true, laidLooks := .later }
def MoveStaysUptoCardSaid : Prop := Claim7.holds Tryz.pinned (.plain (OpenSpec.upto moveStaysSpec)) moveStaysUptoCard

/-- THE SECOND FORM's CARD OF 'downtiltlaw08.MoveStrongest'. -/
def moveStrongestUptoCard : Claim7 := { stood := { row := moveStrongestUptoRow, standIns := [], harness := (true, "d069a4c99b5968b22d28cac5c5c755306057ef9b993700109f48ee8aa45049f1"), looks := true }, kinds := [], alts := [], laidByText := true, laidKinds := [.data, .data, .data, .funcsDeep], laidTests := true, laidLooks := .later }
def MoveStrongestUptoCardSaid : Prop := Claim7.holds Tryz.pinned (.plain (OpenSpec.upto moveStrongestSpec)) moveStrongestUptoCard

/-- THE SECOND FORM's CARD OF 'downtiltlaw08.MoveStates'. -/
def moveStatesUptoCard : Claim7 := { stood := { row := moveStatesUptoRow, standIns := [], harness := (true, "d069a4c99b5968b22d28cac5c5c755306057ef9b993700109f48ee8aa45049f1"), looks := true }, kinds := [], alts := [], laidByText := true, laidKinds := [.data, .data, .data, .funcsDeep], laidTests := true, laidLooks := .later }
def MoveStatesUptoCardSaid : Prop := Claim7.holds Tryz.pinned (.plain (OpenSpec.upto moveStatesSpec)) moveStatesUptoCard

/-- THE SECOND FORM's CARD OF 'downtiltlaw08.MoveApplies'. -/
def moveAppliesUptoCard : Claim7 := { stood := { row := moveAppliesUptoRow, standIns := [], harness := (true, "d069a4c99b5968b22d28cac5c5c755306057ef9b993700109f48ee8aa45049f1"), looks := true }, kinds := [], alts := [], laidByText := true, laidKinds := [.data, .data, .data, .funcsDeep], laidTests := true, laidLooks := .later }
def MoveAppliesUptoCardSaid : Prop := Claim7.holds Tryz.pinned (.plain (OpenSpec.upto moveAppliesSpec)) moveAppliesUptoCard

/-- THE SECOND FORM's CARD OF 'downtiltlaw08.MoveOnce'. -/
def moveOnceUptoCard : Claim7 := { stood := { row := moveOnceUptoRow, standIns := [], harness := (true, "d069a4c99b5968b22d28cac5c5c755306057ef9b993700109f48ee8aa45049f1"), looks := true }, kinds := [], alts := [], laidByText := true, laidKinds := [.data, .data, .data, .funcsDeep], laidTests := true, laidLooks := .later }
def MoveOnceUptoCardSaid : Prop := Claim7.holds Tryz.pinned (.plain (OpenSpec.upto moveOnceSpec)) moveOnceUptoCard

/-- THE SECOND FORM's CARD OF 'downtiltlaw08.MoveWaits'. -/
def moveWaitsUptoCard : Claim7 := { stood := { row := moveWaitsUptoRow, standIns := [], harness := (true, "d069a4c99b5968b22d28cac5c5c755306057ef9b993700109f48ee8aa45049f1"), looks := true }, kinds := [], alts := [], laidByText := true, laidKinds := [.data, .data, .data, .funcsDeep], laidTests := true, laidLooks := .later }
def MoveWaitsUptoCardSaid : Prop := Claim7.holds Tryz.pinned (.plain (OpenSpec.upto moveWaitsSpec)) moveWaitsUptoCard

/-- THE SECOND FORM's CARD OF 'downtiltlaw08.MoveKept'. -/
def moveKeptUptoCard : Claim7 := { stood := { row := moveKeptUptoRow, standIns := [], harness := (true, "d069a4c99b5968b22d28cac5c5c755306057ef9b993700109f48ee8aa45049f1"), looks := true }, kinds := [], alts := [], laidByText := true, laidKinds := [.data, .data, .data, .funcsDeep], laidTests := true, laidLooks := .later }
def MoveKeptUptoCardSaid : Prop := Claim7.holds Tryz.pinned (.plain (OpenSpec.upto moveKeptSpec)) moveKeptUptoCard

/-- THE SECOND FORM's CARD OF 'downtiltlaw08.MovePossible'. -/
def movePossibleUptoCard : Claim7 := { stood := { row := movePossibleUptoRow, standIns := [], harness := (true, "d069a4c99b5968b22d28cac5c5c755306057ef9b993700109f48ee8aa45049f1"), looks := true }, kinds := [], alts := [], laidByText := true, laidKinds := [.data, .data, .data, .funcsDeep], laidTests := true, laidLooks := .later }
def MovePossibleUptoCardSaid : Prop := Claim7.holds Tryz.pinned (.plain (OpenSpec.upto movePossibleSpec)) movePossibleUptoCard

/-- THE SECOND FORM's CARD OF 'downtiltlaw08.MoveTexts'. -/
def moveTextsUptoCard : Claim7 := { stood := { row := moveTextsUptoRow, standIns := [], harness := (true, "d069a4c99b5968b22d28cac5c5c755306057ef9b993700109f48ee8aa45049f1"), looks := true }, kinds := [], alts := [], laidByText := true, laidKinds := [.data, .data, .data, .data, .sentinel, .sentinel, .funcsDeep, .pinned], laidTests := true, laidLooks := .later }
def MoveTextsUptoCardSaid : Prop := Claim7.holds Tryz.pinned (.plain (OpenSpec.upto moveTextsSpec)) moveTextsUptoCard

/-- THE SECOND FORM's CARD OF 'downtilttop.TopMoveOnceInOrder'. -/
def topMoveOnceInOrderUptoCard : Claim7 := { stood := { row := topMoveOnceInOrderUptoRow, standIns := [], harness := (true, "d069a4c99b5968b22d28cac5c5c755306057ef9b993700109f48ee8aa45049f1"), looks := true }, kinds := [], alts := [], laidByText := true, laidKinds := [.data, .data, .data, .funcsDeep], laidTests := true, laidLooks := .later }
def TopMoveOnceInOrderUptoCardSaid : Prop := Claim7.holds Tryz.pinned (.plain (OpenSpec.upto topMoveOnceInOrderSpec)) topMoveOnceInOrderUptoCard

/-- THE SECOND FORM's CARD OF 'downtilttop.TopMoveConnectedAgain'. -/
def topMoveConnectedAgainUptoCard : Claim7 := { stood := { row := topMoveConnectedAgainUptoRow, standIns := [], harness := (true, "d069a4c99b5968b22d28cac5c5c755306057ef9b993700109f48ee8aa45049f1"), looks := true }, kinds := [], alts := [], laidByText := true, laidKinds := [.data, .data, .data, .funcsDeep], laidTests := true, laidLooks := .later }
def TopMoveConnectedAgainUptoCardSaid : Prop := Claim7.holds Tryz.pinned (.plain (OpenSpec.upto topMoveConnectedAgainSpec)) topMoveConnectedAgainUptoCard

/-- THE SECOND FORM's CARD OF 'downtilttop.TopMoveTold'. -/
def topMoveToldUptoCard : Claim7 := { stood := { row := topMoveToldUptoRow, standIns := [], harness := (true, "d069a4c99b5968b22d28cac5c5c755306057ef9b993700109f48ee8aa45049f1"), looks := true }, kinds := [], alts := [], laidByText := true, laidKinds := [.data, .data, .data, .data, .sentinel, .sentinel, .funcsDeep, .pinned], laidTests := true, laidLooks := .later }
def TopMoveToldUptoCardSaid : Prop := Claim7.holds Tryz.pinned (.plain (OpenSpec.upto topMoveToldSpec)) topMoveToldUptoCard
end Rows
end Go.Proofs.YtcbabnbiinkafaaGreatDoor
