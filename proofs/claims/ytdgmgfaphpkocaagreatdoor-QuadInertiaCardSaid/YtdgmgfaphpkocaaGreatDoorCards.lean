/-
  DERIVED. GIVEN WITH THE SEED: THE CARDS: each row of YtdgmgfaphpkocaaGreatDoorRows.lean that lists a variable, with what it lists TIED to the program's text (the seventh form; the later family's looks); each row that meets fmt, with fmt's text TOLD by the authors' own Lean function (tested against real Go, not proved from fmt's source: count such statements apart). THE CARD IS WHAT COUNTS. Prove the row's statement (the work); the ties are given (YtdgmgfaphpkocaaGreatDoorTie.lean); close each card by the builder's one call (the guide's Derived/Test/ToyasCard.lean, 'card_holds'). Laid BY PROGRAM, IN A SANDBOX (cutbox-door.mjs). By AI agents, Wed Nov 11 2026. No macro, syntax, notation, axiom, sorry.
-/
import Derived.Test.YtdgmgfaphpkocaaGreatDoorRows
import GoSem.ClaimSeven
namespace Go.Proofs.YtdgmgfaphpkocaaGreatDoor
namespace Rows

/-- THE TIED CARD OF 'abaculuslaw12.QuadInertia'. -/
def quadInertiaCard : Claim7 := { stood := { row := quadInertiaRow, standIns := [], harness := (true, "4273051477ca413526ace384e22d8ff696c852b2320014c7199119147a7f9074"), looks := false }, kinds := [], alts := [], laidByText := true, laidKinds := [.data], laidTests := true, laidLooks := .later }
def QuadInertiaCardSaid : Prop := Claim7.holds Tryz.pinned (.plain (OpenSpec.ofChange quadInertiaSpec)) quadInertiaCard

/-- THE SECOND FORM's CARD OF 'abaculuslaw12.QuadInertia'. -/
def quadInertiaUptoCard : Claim7 := { stood := { row := quadInertiaUptoRow, standIns := [], harness := (true, "4273051477ca413526ace384e22d8ff696c852b2320014c7199119147a7f9074"), looks := false }, kinds := [], alts := [], laidByText := true, laidKinds := [.data], laidTests := true, laidLooks := .later }
def QuadInertiaUptoCardSaid : Prop := Claim7.holds Tryz.pinned (.plain (OpenSpec.upto quadInertiaSpec)) quadInertiaUptoCard
end Rows
end Go.Proofs.YtdgmgfaphpkocaaGreatDoor
