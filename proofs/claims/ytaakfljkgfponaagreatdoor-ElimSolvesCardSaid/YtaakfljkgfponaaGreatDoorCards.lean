/-
  DERIVED. GIVEN WITH THE SEED: THE CARDS: each row of YtaakfljkgfponaaGreatDoorRows.lean that lists a variable, with what it lists TIED to the program's text (the seventh form; the later family's looks); each row that meets fmt, with fmt's text TOLD by the authors' own Lean function (tested against real Go, not proved from fmt's source: count such statements apart). THE CARD IS WHAT COUNTS. Prove the row's statement (the work); the ties are given (YtaakfljkgfponaaGreatDoorTie.lean); close each card by the builder's one call (the guide's Derived/Test/ToyasCard.lean, 'card_holds'). Laid BY PROGRAM, IN A SANDBOX (cutbox-door.mjs). By AI agents, Wed Nov 11 2026. No macro, syntax, notation, axiom, sorry.
-/
import Derived.Test.YtaakfljkgfponaaGreatDoorRows
import GoSem.ClaimSeven
namespace Go.Proofs.YtaakfljkgfponaaGreatDoor
namespace Rows

/-- THE TIED CARD OF 'abaculuslaw11.ElimSolves'. -/
def elimSolvesCard : Claim7 := { stood := { row := elimSolvesRow, standIns := [], harness := (true, "7ee9c082afa9924abd01896a6666ac968b4c8b41f38b5b9b45f1f689270db48e"), looks := false }, kinds := [], alts := [], laidByText := true, laidKinds := [.data, .data, .data], laidTests := true, laidLooks := .later }
def ElimSolvesCardSaid : Prop := Claim7.holds Tryz.pinned (.plain (OpenSpec.ofChange elimSolvesSpec)) elimSolvesCard

/-- THE SECOND FORM's CARD OF 'abaculuslaw11.ElimSolves'. -/
def elimSolvesUptoCard : Claim7 := { stood := { row := elimSolvesUptoRow, standIns := [], harness := (true, "7ee9c082afa9924abd01896a6666ac968b4c8b41f38b5b9b45f1f689270db48e"), looks := false }, kinds := [], alts := [], laidByText := true, laidKinds := [.data, .data, .data], laidTests := true, laidLooks := .later }
def ElimSolvesUptoCardSaid : Prop := Claim7.holds Tryz.pinned (.plain (OpenSpec.upto elimSolvesSpec)) elimSolvesUptoCard
end Rows
end Go.Proofs.YtaakfljkgfponaaGreatDoor
