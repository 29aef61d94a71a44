/-
  DERIVED. GIVEN WITH THE SEED: THE CARDS: each row of YtencnjmceojnjaaGreatDoorRows.lean that lists a variable, with what it lists TIED to the program's text (the seventh form; the later family's looks); each row that meets fmt, with fmt's text TOLD by the authors' own Lean function (tested against real Go, not proved from fmt's source: count such statements apart). THE CARD IS WHAT COUNTS. Prove the row's statement (the work); the ties are given (YtencnjmceojnjaaGreatDoorTie.lean); close each card by the builder's one call (the guide's Derived/Test/ToyasCard.lean, 'card_holds'). Laid BY PROGRAM, IN A SANDBOX (cutbox-door.mjs). By AI agents, Wed Nov 11 2026. No macro, syntax, notation, axiom, sorry.
-/
import Derived.Test.YtencnjmceojnjaaGreatDoorRows
import GoSem.ClaimSeven
namespace Go.Proofs.YtencnjmceojnjaaGreatDoor
namespace Rows

/-- THE TIED CARD OF 'pedigreelaw15.ProofBack'. -/
def proofBackCard : Claim7 := { stood := { row := proofBackRow, standIns := [], harness := (true, "d0bc0f50410ca8118aae6837371dc2c99578e0f830c373e40d9b08c299d9ca2b"), looks := true }, kinds := [], alts := [], goes := true, laidByText := true, laidKinds := [.data, .data, .data], laidTests := true, laidLooks := .later }
def ProofBackCardSaid : Prop := Claim7.holds Tryz.pinned (.plain (OpenSpec.ofChange proofBackSpec)) proofBackCard
end Rows
end Go.Proofs.YtencnjmceojnjaaGreatDoor
