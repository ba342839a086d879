/-
  DERIVED. GIVEN WITH THE SEED: THE CARDS: each row of YtehpejclkajjnaaGreatDoorRows.lean that lists a variable, with what it lists TIED to the program's text (the seventh form; the later family's looks); each row that meets fmt, with fmt's text TOLD by the authors' own Lean function (tested against real Go, not proved from fmt's source: count such statements apart). THE CARD IS WHAT COUNTS. Prove the row's statement (the work); the ties are given (YtehpejclkajjnaaGreatDoorTie.lean); close each card by the builder's one call (the guide's Derived/Test/ToyasCard.lean, 'card_holds'). Laid BY PROGRAM, IN A SANDBOX (cutbox-door.mjs). By AI agents, Wed Nov 11 2026. No macro, syntax, notation, axiom, sorry.
-/
import Derived.Test.YtehpejclkajjnaaGreatDoorRows
import GoSem.ClaimSeven
namespace Go.Proofs.YtehpejclkajjnaaGreatDoor
namespace Rows

/-- THE TIED CARD OF 'abaculuslaw13.PolyWhole'. -/
def polyWholeCard : Claim7 := { stood := { row := polyWholeRow, standIns := [], harness := (true, "8364b3efbba052b379585fa185b586c8e345b651b07fbb8d51ac89d597a04243"), looks := false }, kinds := [], alts := [], laidByText := true, laidKinds := [.data, .data, .data], laidTests := true, laidLooks := .later }
def PolyWholeCardSaid : Prop := Claim7.holds Tryz.pinned (.plain (OpenSpec.ofChange polyWholeSpec)) polyWholeCard

/-- THE SECOND FORM's CARD OF 'abaculuslaw13.PolyWhole'. -/
def polyWholeUptoCard : Claim7 := { stood := { row := polyWholeUptoRow, standIns := [], harness := (true, "8364b3efbba052b379585fa185b586c8e345b651b07fbb8d51ac89d597a04243"), looks := false }, kinds := [], alts := [], laidByText := true, laidKinds := [.data, .data, .data], laidTests := true, laidLooks := .later }
def PolyWholeUptoCardSaid : Prop := Claim7.holds Tryz.pinned (.plain (OpenSpec.upto polyWholeSpec)) polyWholeUptoCard
end Rows
end Go.Proofs.YtehpejclkajjnaaGreatDoor
