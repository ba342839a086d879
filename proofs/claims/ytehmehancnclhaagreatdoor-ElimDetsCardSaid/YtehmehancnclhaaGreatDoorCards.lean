/-
  DERIVED. GIVEN WITH THE SEED: THE CARDS: each row of YtehmehancnclhaaGreatDoorRows.lean that lists a variable, with what it lists TIED to the program's text (the seventh form; the later family's looks); each row that meets fmt, with fmt's text TOLD by the authors' own Lean function (tested against real Go, not proved from fmt's source: count such statements apart). THE CARD IS WHAT COUNTS. Prove the row's statement (the work); the ties are given (YtehmehancnclhaaGreatDoorTie.lean); close each card by the builder's one call (the guide's Derived/Test/ToyasCard.lean, 'card_holds'). Laid BY PROGRAM, IN A SANDBOX (cutbox-door.mjs). By AI agents, Wed Nov 11 2026. No macro, syntax, notation, axiom, sorry.
-/
import Derived.Test.YtehmehancnclhaaGreatDoorRows
import GoSem.ClaimSeven
namespace Go.Proofs.YtehmehancnclhaaGreatDoor
namespace Rows

/-- THE TIED CARD OF 'abaculuslaw11.ElimDets'. -/
def elimDetsCard : Claim7 := { stood := { row := elimDetsRow, standIns := [], harness := (true, "6644c8dd30387946cbd0f6f1cddb60bd6bc2e45450b9c6b20b5bf36b299da401"), looks := false }, kinds := [], alts := [], laidByText := true, laidKinds := [.data, .data, .data], laidTests := true, laidLooks := .later }
def ElimDetsCardSaid : Prop := Claim7.holds Tryz.pinned (.plain (OpenSpec.ofChange elimDetsSpec)) elimDetsCard

/-- THE SECOND FORM's CARD OF 'abaculuslaw11.ElimDets'. -/
def elimDetsUptoCard : Claim7 := { stood := { row := elimDetsUptoRow, standIns := [], harness := (true, "6644c8dd30387946cbd0f6f1cddb60bd6bc2e45450b9c6b20b5bf36b299da401"), looks := false }, kinds := [], alts := [], laidByText := true, laidKinds := [.data, .data, .data], laidTests := true, laidLooks := .later }
def ElimDetsUptoCardSaid : Prop := Claim7.holds Tryz.pinned (.plain (OpenSpec.upto elimDetsSpec)) elimDetsUptoCard
end Rows
end Go.Proofs.YtehmehancnclhaaGreatDoor
