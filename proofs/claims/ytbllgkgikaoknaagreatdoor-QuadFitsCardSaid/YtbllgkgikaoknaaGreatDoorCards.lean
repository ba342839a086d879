/-
  DERIVED. GIVEN WITH THE SEED: THE CARDS: each row of YtbllgkgikaoknaaGreatDoorRows.lean that lists a variable, with what it lists TIED to the program's text (the seventh form; the later family's looks); each row that meets fmt, with fmt's text TOLD by the authors' own Lean function (tested against real Go, not proved from fmt's source: count such statements apart). THE CARD IS WHAT COUNTS. Prove the row's statement (the work); the ties are given (YtbllgkgikaoknaaGreatDoorTie.lean); close each card by the builder's one call (the guide's Derived/Test/ToyasCard.lean, 'card_holds'). Laid BY PROGRAM, IN A SANDBOX (cutbox-door.mjs). By AI agents, Wed Nov 11 2026. No macro, syntax, notation, axiom, sorry.
-/
import Derived.Test.YtbllgkgikaoknaaGreatDoorRows
import GoSem.ClaimSeven
namespace Go.Proofs.YtbllgkgikaoknaaGreatDoor
namespace Rows

/-- THE TIED CARD OF 'abaculuslaw12.QuadFits'. -/
def quadFitsCard : Claim7 := { stood := { row := quadFitsRow, standIns := [], harness := (true, "8b4869f9b92713af5894a9bea1c1a31474bbf0d0809528071d2c67a60d8165f2"), looks := false }, kinds := [], alts := [], laidByText := true, laidKinds := [.data], laidTests := true, laidLooks := .later }
def QuadFitsCardSaid : Prop := Claim7.holds Tryz.pinned (.plain (OpenSpec.ofChange quadFitsSpec)) quadFitsCard

/-- THE SECOND FORM's CARD OF 'abaculuslaw12.QuadFits'. -/
def quadFitsUptoCard : Claim7 := { stood := { row := quadFitsUptoRow, standIns := [], harness := (true, "8b4869f9b92713af5894a9bea1c1a31474bbf0d0809528071d2c67a60d8165f2"), looks := false }, kinds := [], alts := [], laidByText := true, laidKinds := [.data], laidTests := true, laidLooks := .later }
def QuadFitsUptoCardSaid : Prop := Claim7.holds Tryz.pinned (.plain (OpenSpec.upto quadFitsSpec)) quadFitsUptoCard
end Rows
end Go.Proofs.YtbllgkgikaoknaaGreatDoor
