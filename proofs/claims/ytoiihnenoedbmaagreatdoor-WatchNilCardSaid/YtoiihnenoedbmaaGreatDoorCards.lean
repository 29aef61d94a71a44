/-
  DERIVED. GIVEN WITH THE SEED: THE CARDS: each row of YtoiihnenoedbmaaGreatDoorRows.lean that lists a variable, with what it lists TIED to the program's text (the seventh form; the later family's looks); each row that meets fmt, with fmt's text TOLD by the authors' own Lean function (tested against real Go, not proved from fmt's source: count such statements apart). THE CARD IS WHAT COUNTS. Prove the row's statement (the work); the ties are given (YtoiihnenoedbmaaGreatDoorTie.lean); close each card by the builder's one call (the guide's Derived/Test/ToyasCard.lean, 'card_holds'). Laid BY PROGRAM, IN A SANDBOX (cutbox-door.mjs). By AI agents, Wed Nov 11 2026. No macro, syntax, notation, axiom, sorry.
-/
import Derived.Test.YtoiihnenoedbmaaGreatDoorRows
import GoSem.ClaimSeven
namespace Go.Proofs.YtoiihnenoedbmaaGreatDoor
namespace Rows

/-- THE TIED CARD OF 'pedigreelaw21.WatchNil'. -/
def watchNilCard : Claim7 := { stood := { row := watchNilRow, standIns := [], harness := (true, "ef0a753ddbec05540c2218288087aa387d0d174c9e3a0a3241da21255c2d89d5"), looks := true }, kinds := [], alts := [], goes := true, laidByText := true, laidKinds := [.data, .data, .data], laidTests := true, laidLooks := .later }
def WatchNilCardSaid : Prop := Claim7.holds Tryz.pinned (.plain (OpenSpec.ofChange watchNilSpec)) watchNilCard
end Rows
end Go.Proofs.YtoiihnenoedbmaaGreatDoor
