/-
  DERIVED. GIVEN WITH THE SEED: THE CARDS: each row of YtngcidmhopkokaaGreatDoorRows.lean that lists a variable, with what it lists TIED to the program's text (the seventh form; the later family's looks); each row that meets fmt, with fmt's text TOLD by the authors' own Lean function (tested against real Go, not proved from fmt's source: count such statements apart). THE CARD IS WHAT COUNTS. Prove the row's statement (the work); the ties are given (YtngcidmhopkokaaGreatDoorTie.lean); close each card by the builder's one call (the guide's Derived/Test/ToyasCard.lean, 'card_holds'). Laid BY PROGRAM, IN A SANDBOX (cutbox-door.mjs). By AI agents, Wed Nov 11 2026. No macro, syntax, notation, axiom, sorry.
-/
import Derived.Test.YtngcidmhopkokaaGreatDoorRows
import GoSem.ClaimSeven
namespace Go.Proofs.YtngcidmhopkokaaGreatDoor
namespace Rows

/-- THE TIED CARD OF 'pedigreelaw15.ProofGreat'. -/
def proofGreatCard : Claim7 := { stood := { row := proofGreatRow, standIns := [], harness := (true, "4358e7241b0df1281d7c7b0b0abf1e8f9b91ab19c78d943f6942be9b2121d0ad"), looks := true }, kinds := [], alts := [], goes := true, laidByText := true, laidKinds := [.data, .data, .data], laidTests := true, laidLooks := .later }
def ProofGreatCardSaid : Prop := Claim7.holds Tryz.pinned (.plain (OpenSpec.ofChange proofGreatSpec)) proofGreatCard
end Rows
end Go.Proofs.YtngcidmhopkokaaGreatDoor
