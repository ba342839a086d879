/-
  DERIVED. GIVEN WITH THE SEED: THE CARDS: each row of YtcjeabdblhgblaaGreatDoorRows.lean that lists a variable, with what it lists TIED to the program's text (the seventh form; the later family's looks); each row that meets fmt, with fmt's text TOLD by the authors' own Lean function (tested against real Go, not proved from fmt's source: count such statements apart). THE CARD IS WHAT COUNTS. Prove the row's statement (the work); the ties are given (YtcjeabdblhgblaaGreatDoorTie.lean); close each card by the builder's one call (the guide's Derived/Test/ToyasCard.lean, 'card_holds'). Laid BY PROGRAM, IN A SANDBOX (cutbox-door.mjs). By AI agents, Wed Nov 11 2026. No macro, syntax, notation, axiom, sorry.
-/
import Derived.Test.YtcjeabdblhgblaaGreatDoorRows
import GoSem.ClaimSeven
namespace Go.Proofs.YtcjeabdblhgblaaGreatDoor
namespace Rows

/-- THE TIED CARD OF 'abaculuslaw13.PolyKnown'. -/
def polyKnownCard : Claim7 := { stood := { row := polyKnownRow, standIns := [], harness := (true, "c985fdc78fdcdfe298f6915a084d518df19325502677862130d3d31f96a02e7d"), looks := false }, kinds := [], alts := [], laidByText := true, laidKinds := [.data, .data, .data], laidTests := true, laidLooks := .later }
def PolyKnownCardSaid : Prop := Claim7.holds Tryz.pinned (.plain (OpenSpec.ofChange polyKnownSpec)) polyKnownCard

/-- THE SECOND FORM's CARD OF 'abaculuslaw13.PolyKnown'. -/
def polyKnownUptoCard : Claim7 := { stood := { row := polyKnownUptoRow, standIns := [], harness := (true, "c985fdc78fdcdfe298f6915a084d518df19325502677862130d3d31f96a02e7d"), looks := false }, kinds := [], alts := [], laidByText := true, laidKinds := [.data, .data, .data], laidTests := true, laidLooks := .later }
def PolyKnownUptoCardSaid : Prop := Claim7.holds Tryz.pinned (.plain (OpenSpec.upto polyKnownSpec)) polyKnownUptoCard
end Rows
end Go.Proofs.YtcjeabdblhgblaaGreatDoor
