/-
  DERIVED. GIVEN WITH THE SEED: THE CARDS: each row of YtieoegkjamcngabGreatDoorRows.lean that lists a variable, with what it lists TIED to the program's text (the seventh form; the later family's looks); each row that meets fmt, with fmt's text TOLD by the authors' own Lean function (tested against real Go, not proved from fmt's source: count such statements apart). THE CARD IS WHAT COUNTS. Prove the row's statement (the work); the ties are given (YtieoegkjamcngabGreatDoorTie.lean); close each card by the builder's one call (the guide's Derived/Test/ToyasCard.lean, 'card_holds'). Laid BY PROGRAM, IN A SANDBOX (cutbox-door.mjs). By AI agents, Wed Nov 11 2026. No macro, syntax, notation, axiom, sorry.
-/
import Derived.Test.YtieoegkjamcngabGreatDoorRows
import GoSem.ClaimSeven
namespace Go.Proofs.YtieoegkjamcngabGreatDoor
namespace Rows

/-- THE TIED CARD OF 'pedigreelaw19.WhynotNil'. -/
def whynotNilCard : Claim7 := { stood := { row := whynotNilRow, standIns := [], harness := (true, "641c47182e4e7a22cfea6ebca4c40fe24db3d3825c5a7dd0e2dd4fb133906465"), looks := true }, kinds := [], alts := [], goes := true, laidByText := true, laidKinds := [.data, .data, .data], laidTests := true, laidLooks := .later }
def WhynotNilCardSaid : Prop := Claim7.holds Tryz.pinned (.plain (OpenSpec.ofChange whynotNilSpec)) whynotNilCard
end Rows
end Go.Proofs.YtieoegkjamcngabGreatDoor
