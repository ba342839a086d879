/-
  DERIVED. GIVEN WITH THE SEED: THE CARDS: each row of YtmjognlfegpgoaaGreatDoorRows.lean that lists a variable, with what it lists TIED to the program's text (the seventh form; the later family's looks); each row that meets fmt, with fmt's text TOLD by the authors' own Lean function (tested against real Go, not proved from fmt's source: count such statements apart). THE CARD IS WHAT COUNTS. Prove the row's statement (the work); the ties are given (YtmjognlfegpgoaaGreatDoorTie.lean); close each card by the builder's one call (the guide's Derived/Test/ToyasCard.lean, 'card_holds'). Laid BY PROGRAM, IN A SANDBOX (cutbox-door.mjs). By AI agents, Wed Nov 11 2026. No macro, syntax, notation, axiom, sorry.
-/
import Derived.Test.YtmjognlfegpgoaaGreatDoorRows
import GoSem.ClaimSeven
namespace Go.Proofs.YtmjognlfegpgoaaGreatDoor
namespace Rows

/-- THE TIED CARD OF 'abaculuslaw12.QuadLeast'. -/
def quadLeastCard : Claim7 := { stood := { row := quadLeastRow, standIns := [], harness := (true, "9709d5786779ba4940c1d767f20122f0ab0758d36f6765c0afb50c484fa9235c"), looks := false }, kinds := [], alts := [], laidByText := true, laidKinds := [.data], laidTests := true, laidLooks := .later }
def QuadLeastCardSaid : Prop := Claim7.holds Tryz.pinned (.plain (OpenSpec.ofChange quadLeastSpec)) quadLeastCard

/-- THE SECOND FORM's CARD OF 'abaculuslaw12.QuadLeast'. -/
def quadLeastUptoCard : Claim7 := { stood := { row := quadLeastUptoRow, standIns := [], harness := (true, "9709d5786779ba4940c1d767f20122f0ab0758d36f6765c0afb50c484fa9235c"), looks := false }, kinds := [], alts := [], laidByText := true, laidKinds := [.data], laidTests := true, laidLooks := .later }
def QuadLeastUptoCardSaid : Prop := Claim7.holds Tryz.pinned (.plain (OpenSpec.upto quadLeastSpec)) quadLeastUptoCard
end Rows
end Go.Proofs.YtmjognlfegpgoaaGreatDoor
