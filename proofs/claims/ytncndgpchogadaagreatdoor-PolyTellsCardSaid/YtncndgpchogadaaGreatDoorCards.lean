/-
  DERIVED. GIVEN WITH THE SEED: THE CARDS: each row of YtncndgpchogadaaGreatDoorRows.lean that lists a variable, with what it lists TIED to the program's text (the seventh form; the later family's looks); each row that meets fmt, with fmt's text TOLD by the authors' own Lean function (tested against real Go, not proved from fmt's source: count such statements apart). THE CARD IS WHAT COUNTS. Prove the row's statement (the work); the ties are given (YtncndgpchogadaaGreatDoorTie.lean); close each card by the builder's one call (the guide's Derived/Test/ToyasCard.lean, 'card_holds'). Laid BY PROGRAM, IN A SANDBOX (cutbox-door.mjs). By AI agents, Wed Nov 11 2026. No macro, syntax, notation, axiom, sorry.
-/
import Derived.Test.YtncndgpchogadaaGreatDoorRows
import GoSem.ClaimSeven
namespace Go.Proofs.YtncndgpchogadaaGreatDoor
namespace Rows

/-- THE TIED CARD OF 'abaculuslaw13.PolyFactors'. -/
def polyFactorsCard : Claim7 := { stood := { row := polyFactorsRow, standIns := [], harness := (true, "a7de267f204e4e7f98eae04f90cd762d532eda28baadbea5745d7f7df439f338"), looks := false }, kinds := [], alts := [], laidByText := true, laidKinds := [.data, .data, .data], laidTests := true, laidLooks := .later }
def PolyFactorsCardSaid : Prop := Claim7.holds Tryz.pinned (.plain (OpenSpec.ofChange polyFactorsSpec)) polyFactorsCard

/-- THE TIED CARD OF 'abaculuslaw13.PolyTells'. -/
def polyTellsCard : Claim7 := { stood := { row := polyTellsRow, standIns := [], harness := (true, "a7de267f204e4e7f98eae04f90cd762d532eda28baadbea5745d7f7df439f338"), looks := false }, kinds := [], alts := [], laidByText := true, laidKinds := [.data, .data, .data], laidTests := true, laidLooks := .later }
def PolyTellsCardSaid : Prop := Claim7.holds Tryz.pinned (.plain (OpenSpec.ofChange polyTellsSpec)) polyTellsCard

/-- THE SECOND FORM's CARD OF 'abaculuslaw13.PolyFactors'. -/
def polyFactorsUptoCard : Claim7 := { stood := { row := polyFactorsUptoRow, standIns := [], harness := (true, "a7de267f204e4e7f98eae04f90cd762d532eda28baadbea5745d7f7df439f338"), looks := false }, kinds := [], alts := [], laidByText := true, laidKinds := [.data, .data, .data], laidTests := true, laidLooks := .later }
def PolyFactorsUptoCardSaid : Prop := Claim7.holds Tryz.pinned (.plain (OpenSpec.upto polyFactorsSpec)) polyFactorsUptoCard

/-- THE SECOND FORM's CARD OF 'abaculuslaw13.PolyTells'. -/
def polyTellsUptoCard : Claim7 := { stood := { row := polyTellsUptoRow, standIns := [], harness := (true, "a7de267f204e4e7f98eae04f90cd762d532eda28baadbea5745d7f7df439f338"), looks := false }, kinds := [], alts := [], laidByText := true, laidKinds := [.data, .data, .data], laidTests := true, laidLooks := .later }
def PolyTellsUptoCardSaid : Prop := Claim7.holds Tryz.pinned (.plain (OpenSpec.upto polyTellsSpec)) polyTellsUptoCard
end Rows
end Go.Proofs.YtncndgpchogadaaGreatDoor
