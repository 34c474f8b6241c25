/-
  DERIVED. GIVEN WITH THE SEED: THE CARDS: each row of YtfgpbmjmoobcnaaGreatDoorRows.lean that lists a variable, with what it lists TIED to the program's text (the seventh form; the later family's looks); each row that meets fmt, with fmt's text TOLD by the authors' own Lean function (tested against real Go, not proved from fmt's source: count such statements apart). THE CARD IS WHAT COUNTS. Prove the row's statement (the work); the ties are given (YtfgpbmjmoobcnaaGreatDoorTie.lean); close each card by the builder's one call (the guide's Derived/Test/ToyasCard.lean, 'card_holds'). Laid BY PROGRAM, IN A SANDBOX (cutbox-door.mjs). By AI agents, Wed Nov 11 2026. No macro, syntax, notation, axiom, sorry.
-/
import Derived.Test.YtfgpbmjmoobcnaaGreatDoorRows
import GoSem.ClaimSeven
namespace Go.Proofs.YtfgpbmjmoobcnaaGreatDoor
namespace Rows

/-- THE TIED CARD OF 'downtiltlaw03.SymbolTexts'. -/
def symbolTextsCard : Claim7 := { stood := { row := symbolTextsRow, standIns := [], harness := (true, "89073fa8cc95fd21ebbecf8a62ba584881c68c10487b8a9a968991a8d59c3d43"), looks := true }, kinds := [], alts := [], laidByText := true, laidKinds := [.data, .data, .data, .data, .sentinel, .sentinel, .pinned], laidTests := true, laidLooks := .later }
def SymbolTextsCardSaid : Prop := Claim7.holds Tryz.pinned (.plain (OpenSpec.ofChange symbolTextsSpec)) symbolTextsCard

/-- THE SECOND FORM's CARD OF 'downtiltlaw03.SymbolTexts'. -/
def symbolTextsUptoCard : Claim7 := { stood := { row := symbolTextsUptoRow, standIns := [], harness := (true, "89073fa8cc95fd21ebbecf8a62ba584881c68c10487b8a9a968991a8d59c3d43"), looks := true }, kinds := [], alts := [], laidByText := true, laidKinds := [.data, .data, .data, .data, .sentinel, .sentinel, .pinned], laidTests := true, laidLooks := .later }
def SymbolTextsUptoCardSaid : Prop := Claim7.holds Tryz.pinned (.plain (OpenSpec.upto symbolTextsSpec)) symbolTextsUptoCard
end Rows
end Go.Proofs.YtfgpbmjmoobcnaaGreatDoor
