/-
  DERIVED. GIVEN WITH THE SEED: THE CARDS: each row of YtbpcpimofnlmlaaGreatDoorRows.lean that lists a variable, with what it lists TIED to the program's text (the seventh form; the later family's looks); each row that meets fmt, with fmt's text TOLD by the authors' own Lean function (tested against real Go, not proved from fmt's source: count such statements apart). THE CARD IS WHAT COUNTS. Prove the row's statement (the work); the ties are given (YtbpcpimofnlmlaaGreatDoorTie.lean); close each card by the builder's one call (the guide's Derived/Test/ToyasCard.lean, 'card_holds'). Laid BY PROGRAM, IN A SANDBOX (cutbox-door.mjs). By AI agents, Wed Nov 11 2026. No macro, syntax, notation, axiom, sorry.
-/
import Derived.Test.YtbpcpimofnlmlaaGreatDoorRows
import GoSem.ClaimSeven
namespace Go.Proofs.YtbpcpimofnlmlaaGreatDoor
namespace Rows

/-- THE TIED CARD OF 'abaculuslaw11.ElimWholes'. -/
def elimWholesCard : Claim7 := { stood := { row := elimWholesRow, standIns := [], harness := (true, "a6edd463fd51967b5d25e7f5644c525ed4307c4c7bf84f047af99862f3b74f3a"), looks := false }, kinds := [], alts := [], laidByText := true, laidKinds := [.data, .data, .data], laidTests := true, laidLooks := .later }
def ElimWholesCardSaid : Prop := Claim7.holds Tryz.pinned (.plain (OpenSpec.ofChange elimWholesSpec)) elimWholesCard

/-- THE SECOND FORM's CARD OF 'abaculuslaw11.ElimWholes'. -/
def elimWholesUptoCard : Claim7 := { stood := { row := elimWholesUptoRow, standIns := [], harness := (true, "a6edd463fd51967b5d25e7f5644c525ed4307c4c7bf84f047af99862f3b74f3a"), looks := false }, kinds := [], alts := [], laidByText := true, laidKinds := [.data, .data, .data], laidTests := true, laidLooks := .later }
def ElimWholesUptoCardSaid : Prop := Claim7.holds Tryz.pinned (.plain (OpenSpec.upto elimWholesSpec)) elimWholesUptoCard
end Rows
end Go.Proofs.YtbpcpimofnlmlaaGreatDoor
