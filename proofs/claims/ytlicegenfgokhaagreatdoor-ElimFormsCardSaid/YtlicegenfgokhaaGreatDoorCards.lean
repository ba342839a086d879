/-
  DERIVED. GIVEN WITH THE SEED: THE CARDS: each row of YtlicegenfgokhaaGreatDoorRows.lean that lists a variable, with what it lists TIED to the program's text (the seventh form; the later family's looks); each row that meets fmt, with fmt's text TOLD by the authors' own Lean function (tested against real Go, not proved from fmt's source: count such statements apart). THE CARD IS WHAT COUNTS. Prove the row's statement (the work); the ties are given (YtlicegenfgokhaaGreatDoorTie.lean); close each card by the builder's one call (the guide's Derived/Test/ToyasCard.lean, 'card_holds'). Laid BY PROGRAM, IN A SANDBOX (cutbox-door.mjs). By AI agents, Wed Nov 11 2026. No macro, syntax, notation, axiom, sorry.
-/
import Derived.Test.YtlicegenfgokhaaGreatDoorRows
import GoSem.ClaimSeven
namespace Go.Proofs.YtlicegenfgokhaaGreatDoor
namespace Rows

/-- THE TIED CARD OF 'abaculuslaw11.ElimForms'. -/
def elimFormsCard : Claim7 := { stood := { row := elimFormsRow, standIns := [], harness := (true, "4c5c9d0c6f2c13319e74e4ae2a69bea8575de2b97968ad452bf3a7a8ad492874"), looks := false }, kinds := [], alts := [], laidByText := true, laidKinds := [.data, .data, .data], laidTests := true, laidLooks := .later }
def ElimFormsCardSaid : Prop := Claim7.holds Tryz.pinned (.plain (OpenSpec.ofChange elimFormsSpec)) elimFormsCard

/-- THE SECOND FORM's CARD OF 'abaculuslaw11.ElimForms'. -/
def elimFormsUptoCard : Claim7 := { stood := { row := elimFormsUptoRow, standIns := [], harness := (true, "4c5c9d0c6f2c13319e74e4ae2a69bea8575de2b97968ad452bf3a7a8ad492874"), looks := false }, kinds := [], alts := [], laidByText := true, laidKinds := [.data, .data, .data], laidTests := true, laidLooks := .later }
def ElimFormsUptoCardSaid : Prop := Claim7.holds Tryz.pinned (.plain (OpenSpec.upto elimFormsSpec)) elimFormsUptoCard
end Rows
end Go.Proofs.YtlicegenfgokhaaGreatDoor
