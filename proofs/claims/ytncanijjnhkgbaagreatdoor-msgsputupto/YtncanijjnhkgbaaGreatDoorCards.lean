/-
  DERIVED. GIVEN WITH THE SEED: THE CARDS: each row of YtncanijjnhkgbaaGreatDoorRows.lean that lists a variable, with what it lists TIED to the program's text (the seventh form; the later family's looks); each row that meets fmt, with fmt's text TOLD by the authors' own Lean function (tested against real Go, not proved from fmt's source: count such statements apart). THE CARD IS WHAT COUNTS. Prove the row's statement (the work); the ties are given (YtncanijjnhkgbaaGreatDoorTie.lean); close each card by the builder's one call (the guide's Derived/Test/ToyasCard.lean, 'card_holds'). Laid BY PROGRAM, IN A SANDBOX (cutbox-door.mjs). By AI agents, Wed Nov 11 2026. No macro, syntax, notation, axiom, sorry.
-/
import Derived.Test.YtncanijjnhkgbaaGreatDoorRows
import GoSem.ClaimSeven
namespace Go.Proofs.YtncanijjnhkgbaaGreatDoor
namespace Rows

/-- THE TIED CARD OF 'warderlaw18.MsgsPut'. -/
def msgsPutCard : Claim7 := { stood := { row := msgsPutRow, standIns := [], harness := (true, "3e48a21227b2d35a1bebe8f5f5190aca0ad5aa61c6b7fac43953f0a25badb76c"), looks := true }, kinds := [], alts := [], laidByText := true, laidKinds := [.data, .pinned], laidTests := true, laidLooks := .later }
def MsgsPutCardSaid : Prop := Claim7.holds Tryz.pinned (.plain (OpenSpec.ofChange msgsPutSpec)) msgsPutCard

/-- THE SECOND FORM's CARD OF 'warderlaw18.MsgsPut'. -/
def msgsPutUptoCard : Claim7 := { stood := { row := msgsPutUptoRow, standIns := [], harness := (true, "3e48a21227b2d35a1bebe8f5f5190aca0ad5aa61c6b7fac43953f0a25badb76c"), looks := true }, kinds := [], alts := [], laidByText := true, laidKinds := [.data, .pinned], laidTests := true, laidLooks := .later }
def MsgsPutUptoCardSaid : Prop := Claim7.holds Tryz.pinned (.plain (OpenSpec.upto msgsPutSpec)) msgsPutUptoCard
end Rows
end Go.Proofs.YtncanijjnhkgbaaGreatDoor
