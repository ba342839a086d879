/-
  DERIVED. GIVEN WITH THE SEED: THE CARDS: each row of YtafmfomnjacpbaaGreatDoorRows.lean that lists a variable, with what it lists TIED to the program's text (the seventh form; the later family's looks); each row that meets fmt, with fmt's text TOLD by the authors' own Lean function (tested against real Go, not proved from fmt's source: count such statements apart). THE CARD IS WHAT COUNTS. Prove the row's statement (the work); the ties are given (YtafmfomnjacpbaaGreatDoorTie.lean); close each card by the builder's one call (the guide's Derived/Test/ToyasCard.lean, 'card_holds'). Laid BY PROGRAM, IN A SANDBOX (cutbox-door.mjs). By AI agents, Wed Nov 11 2026. No macro, syntax, notation, axiom, sorry.
-/
import Derived.Test.YtafmfomnjacpbaaGreatDoorRows
import GoSem.ClaimSeven
namespace Go.Proofs.YtafmfomnjacpbaaGreatDoor
namespace Rows

/-- THE TIED CARD OF 'abaculuslaw11.ElimTells'. -/
def elimTellsCard : Claim7 := { stood := { row := elimTellsRow, standIns := [], harness := (true, "ffaab4a4ca714653cd14e247dbe385423c92bbfafc04903098e5d056570a33ee"), looks := false }, kinds := [], alts := [], laidByText := true, laidKinds := [.data, .data, .data], laidTests := true, laidLooks := .later }
def ElimTellsCardSaid : Prop := Claim7.holds Tryz.pinned (.plain (OpenSpec.ofChange elimTellsSpec)) elimTellsCard

/-- THE SECOND FORM's CARD OF 'abaculuslaw11.ElimTells'. -/
def elimTellsUptoCard : Claim7 := { stood := { row := elimTellsUptoRow, standIns := [], harness := (true, "ffaab4a4ca714653cd14e247dbe385423c92bbfafc04903098e5d056570a33ee"), looks := false }, kinds := [], alts := [], laidByText := true, laidKinds := [.data, .data, .data], laidTests := true, laidLooks := .later }
def ElimTellsUptoCardSaid : Prop := Claim7.holds Tryz.pinned (.plain (OpenSpec.upto elimTellsSpec)) elimTellsUptoCard
end Rows
end Go.Proofs.YtafmfomnjacpbaaGreatDoor
