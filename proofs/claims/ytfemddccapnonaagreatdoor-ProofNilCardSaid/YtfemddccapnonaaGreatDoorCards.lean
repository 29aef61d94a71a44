/-
  DERIVED. GIVEN WITH THE SEED: THE CARDS: each row of YtfemddccapnonaaGreatDoorRows.lean that lists a variable, with what it lists TIED to the program's text (the seventh form; the later family's looks); each row that meets fmt, with fmt's text TOLD by the authors' own Lean function (tested against real Go, not proved from fmt's source: count such statements apart). THE CARD IS WHAT COUNTS. Prove the row's statement (the work); the ties are given (YtfemddccapnonaaGreatDoorTie.lean); close each card by the builder's one call (the guide's Derived/Test/ToyasCard.lean, 'card_holds'). Laid BY PROGRAM, IN A SANDBOX (cutbox-door.mjs). By AI agents, Wed Nov 11 2026. No macro, syntax, notation, axiom, sorry.
-/
import Derived.Test.YtfemddccapnonaaGreatDoorRows
import GoSem.ClaimSeven
namespace Go.Proofs.YtfemddccapnonaaGreatDoor
namespace Rows

/-- THE TIED CARD OF 'pedigreelaw15.ProofNil'. -/
def proofNilCard : Claim7 := { stood := { row := proofNilRow, standIns := [], harness := (true, "7825f5f65a667c13168056ad8bb0b4a3855ad9ed628c0197b762d6c30904765d"), looks := true }, kinds := [], alts := [], goes := true, laidByText := true, laidKinds := [.data, .data, .data], laidTests := true, laidLooks := .later }
def ProofNilCardSaid : Prop := Claim7.holds Tryz.pinned (.plain (OpenSpec.ofChange proofNilSpec)) proofNilCard
end Rows
end Go.Proofs.YtfemddccapnonaaGreatDoor
