/-
  DERIVED. GIVEN WITH THE SEED: THE CARDS: each row of YtohbpghlbeoikaaGreatDoorRows.lean that lists a variable, with what it lists TIED to the program's text (the seventh form; the later family's looks); each row that meets fmt, with fmt's text TOLD by the authors' own Lean function (tested against real Go, not proved from fmt's source: count such statements apart). THE CARD IS WHAT COUNTS. Prove the row's statement (the work); the ties are given (YtohbpghlbeoikaaGreatDoorTie.lean); close each card by the builder's one call (the guide's Derived/Test/ToyasCard.lean, 'card_holds'). Laid BY PROGRAM, IN A SANDBOX (cutbox-door.mjs). By AI agents, Wed Nov 11 2026. No macro, syntax, notation, axiom, sorry.
-/
import Derived.Test.YtohbpghlbeoikaaGreatDoorRows
import GoSem.ClaimSeven
namespace Go.Proofs.YtohbpghlbeoikaaGreatDoor
namespace Rows

/-- THE TIED CARD OF 'pedigreelaw13.IncrNil'. -/
def incrNilCard : Claim7 := { stood := { row := incrNilRow, standIns := [], harness := (true, "ddb1689d2b75182b9b2f9833f84a2df8fd3a550af47f265b8363ab3ca0b71158"), looks := true }, kinds := [], alts := [], goes := true, laidByText := true, laidKinds := [.data, .data, .data], laidTests := true, laidLooks := .later }
def IncrNilCardSaid : Prop := Claim7.holds Tryz.pinned (.plain (OpenSpec.ofChange incrNilSpec)) incrNilCard
end Rows
end Go.Proofs.YtohbpghlbeoikaaGreatDoor
