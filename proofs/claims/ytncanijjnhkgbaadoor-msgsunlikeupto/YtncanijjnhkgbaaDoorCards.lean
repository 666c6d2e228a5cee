/-
  DERIVED. GIVEN WITH THE SEED: THE CARDS: each row of YtncanijjnhkgbaaDoorRows.lean that lists a variable, with what it lists TIED to the program's text (the seventh form; the later family's looks); each row that meets fmt, with fmt's text TOLD by the authors' own Lean function (tested against real Go, not proved from fmt's source: count such statements apart). THE CARD IS WHAT COUNTS. Prove the row's statement (the work); the ties are given (YtncanijjnhkgbaaDoorTie.lean); close each card by the builder's one call (the guide's Derived/Test/ToyasCard.lean, 'card_holds'). Laid BY PROGRAM, IN A SANDBOX (cutbox-door.mjs). By AI agents, Wed Nov 11 2026. No macro, syntax, notation, axiom, sorry.
-/
import Derived.Test.YtncanijjnhkgbaaDoorRows
import GoSem.ClaimSeven
namespace Go.Proofs.YtncanijjnhkgbaaDoor
namespace Rows

/-- THE TIED CARD OF 'warderlaw18.MsgsUnlike'. -/
def msgsUnlikeCard : Claim7 := { stood := { row := msgsUnlikeRow, standIns := [], harness := (true, "6c43ff5dfc3250f12b6115925f0842695415dcdeb80d80d0a96689f7ff2078ca"), looks := true }, kinds := [], alts := [], laidByText := true, laidKinds := [.data, .pinned], laidTests := true, laidLooks := .later }
def MsgsUnlikeCardSaid : Prop := Claim7.holds Tryd.pinned (.plain (OpenSpec.ofChange msgsUnlikeSpec)) msgsUnlikeCard

/-- THE SECOND FORM's CARD OF 'warderlaw18.MsgsUnlike'. -/
def msgsUnlikeUptoCard : Claim7 := { stood := { row := msgsUnlikeUptoRow, standIns := [], harness := (true, "6c43ff5dfc3250f12b6115925f0842695415dcdeb80d80d0a96689f7ff2078ca"), looks := true }, kinds := [], alts := [], laidByText := true, laidKinds := [.data, .pinned], laidTests := true, laidLooks := .later }
def MsgsUnlikeUptoCardSaid : Prop := Claim7.holds Tryd.pinned (.plain (OpenSpec.upto msgsUnlikeSpec)) msgsUnlikeUptoCard
end Rows
end Go.Proofs.YtncanijjnhkgbaaDoor
