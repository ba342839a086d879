/-
  DERIVED. GIVEN WITH THE SEED: THE CARDS: each row of YtmpejebalogcgaaGreatDoorRows.lean that lists a variable, with what it lists TIED to the program's text (the seventh form; the later family's looks); each row that meets fmt, with fmt's text TOLD by the authors' own Lean function (tested against real Go, not proved from fmt's source: count such statements apart). THE CARD IS WHAT COUNTS. Prove the row's statement (the work); the ties are given (YtmpejebalogcgaaGreatDoorTie.lean); close each card by the builder's one call (the guide's Derived/Test/ToyasCard.lean, 'card_holds'). Laid BY PROGRAM, IN A SANDBOX (cutbox-door.mjs). By AI agents, Wed Nov 11 2026. No macro, syntax, notation, axiom, sorry.
-/
import Derived.Test.YtmpejebalogcgaaGreatDoorRows
import GoSem.ClaimSeven
namespace Go.Proofs.YtmpejebalogcgaaGreatDoor
namespace Rows

/-- THE TIED CARD OF 'abaculuslaw13.PolyRing'. -/
def polyRingCard : Claim7 := { stood := { row := polyRingRow, standIns := [], harness := (true, "56933c9fde9ce1f7f5d6d2ed24f931b777d08d3a5e9b682e780ab88e103ce262"), looks := false }, kinds := [], alts := [], laidByText := true, laidKinds := [.data, .data, .data], laidTests := true, laidLooks := .later }
def PolyRingCardSaid : Prop := Claim7.holds Tryz.pinned (.plain (OpenSpec.ofChange polyRingSpec)) polyRingCard

/-- THE SECOND FORM's CARD OF 'abaculuslaw13.PolyRing'. -/
def polyRingUptoCard : Claim7 := { stood := { row := polyRingUptoRow, standIns := [], harness := (true, "56933c9fde9ce1f7f5d6d2ed24f931b777d08d3a5e9b682e780ab88e103ce262"), looks := false }, kinds := [], alts := [], laidByText := true, laidKinds := [.data, .data, .data], laidTests := true, laidLooks := .later }
def PolyRingUptoCardSaid : Prop := Claim7.holds Tryz.pinned (.plain (OpenSpec.upto polyRingSpec)) polyRingUptoCard
end Rows
end Go.Proofs.YtmpejebalogcgaaGreatDoor
