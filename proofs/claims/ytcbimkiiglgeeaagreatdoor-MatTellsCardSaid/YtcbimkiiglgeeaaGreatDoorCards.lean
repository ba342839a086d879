/-
  DERIVED. GIVEN WITH THE SEED: THE CARDS: each row of YtcbimkiiglgeeaaGreatDoorRows.lean that lists a variable, with what it lists TIED to the program's text (the seventh form; the later family's looks); each row that meets fmt, with fmt's text TOLD by the authors' own Lean function (tested against real Go, not proved from fmt's source: count such statements apart). THE CARD IS WHAT COUNTS. Prove the row's statement (the work); the ties are given (YtcbimkiiglgeeaaGreatDoorTie.lean); close each card by the builder's one call (the guide's Derived/Test/ToyasCard.lean, 'card_holds'). Laid BY PROGRAM, IN A SANDBOX (cutbox-door.mjs). By AI agents, Wed Nov 11 2026. No macro, syntax, notation, axiom, sorry.
-/
import Derived.Test.YtcbimkiiglgeeaaGreatDoorRows
import GoSem.ClaimSeven
namespace Go.Proofs.YtcbimkiiglgeeaaGreatDoor
namespace Rows

/-- THE TIED CARD OF 'abaculuslaw10.MatRows'. -/
def matRowsCard : Claim7 := { stood := { row := matRowsRow, standIns := [], harness := (true, "a12cc148bcb80164b15859ba5a2436e3de2a6b1885293b857bfd34106018158d"), looks := false }, kinds := [], alts := [], laidByText := true, laidKinds := [.data], laidTests := true, laidLooks := .later }
def MatRowsCardSaid : Prop := Claim7.holds Tryz.pinned (.plain (OpenSpec.ofChange matRowsSpec)) matRowsCard

/-- THE TIED CARD OF 'abaculuslaw10.MatTells'. -/
def matTellsCard : Claim7 := { stood := { row := matTellsRow, standIns := [], harness := (true, "a12cc148bcb80164b15859ba5a2436e3de2a6b1885293b857bfd34106018158d"), looks := false }, kinds := [], alts := [], laidByText := true, laidKinds := [.data], laidTests := true, laidLooks := .later }
def MatTellsCardSaid : Prop := Claim7.holds Tryz.pinned (.plain (OpenSpec.ofChange matTellsSpec)) matTellsCard

/-- THE SECOND FORM's CARD OF 'abaculuslaw10.MatRows'. -/
def matRowsUptoCard : Claim7 := { stood := { row := matRowsUptoRow, standIns := [], harness := (true, "a12cc148bcb80164b15859ba5a2436e3de2a6b1885293b857bfd34106018158d"), looks := false }, kinds := [], alts := [], laidByText := true, laidKinds := [.data], laidTests := true, laidLooks := .later }
def MatRowsUptoCardSaid : Prop := Claim7.holds Tryz.pinned (.plain (OpenSpec.upto matRowsSpec)) matRowsUptoCard

/-- THE SECOND FORM's CARD OF 'abaculuslaw10.MatTells'. -/
def matTellsUptoCard : Claim7 := { stood := { row := matTellsUptoRow, standIns := [], harness := (true, "a12cc148bcb80164b15859ba5a2436e3de2a6b1885293b857bfd34106018158d"), looks := false }, kinds := [], alts := [], laidByText := true, laidKinds := [.data], laidTests := true, laidLooks := .later }
def MatTellsUptoCardSaid : Prop := Claim7.holds Tryz.pinned (.plain (OpenSpec.upto matTellsSpec)) matTellsUptoCard
end Rows
end Go.Proofs.YtcbimkiiglgeeaaGreatDoor
