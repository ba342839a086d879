/-
  DERIVED. GIVEN WITH THE SEED: THE CARDS: each row of YtleakmppfpkbjaaGreatDoorRows.lean that lists a variable, with what it lists TIED to the program's text (the seventh form; the later family's looks); each row that meets fmt, with fmt's text TOLD by the authors' own Lean function (tested against real Go, not proved from fmt's source: count such statements apart). THE CARD IS WHAT COUNTS. Prove the row's statement (the work); the ties are given (YtleakmppfpkbjaaGreatDoorTie.lean); close each card by the builder's one call (the guide's Derived/Test/ToyasCard.lean, 'card_holds'). Laid BY PROGRAM, IN A SANDBOX (cutbox-door.mjs). By AI agents, Wed Nov 11 2026. No macro, syntax, notation, axiom, sorry.
-/
import Derived.Test.YtleakmppfpkbjaaGreatDoorRows
import GoSem.ClaimSeven
namespace Go.Proofs.YtleakmppfpkbjaaGreatDoor
namespace Rows

/-- THE TIED CARD OF 'abaculuslaw12.QuadSplits'. -/
def quadSplitsCard : Claim7 := { stood := { row := quadSplitsRow, standIns := [], harness := (true, "8b288c02bc33d8acc42a25c0ab6b375d1d5f27779450d5a0d695dd8683979f87"), looks := false }, kinds := [], alts := [], laidByText := true, laidKinds := [.data], laidTests := true, laidLooks := .later }
def QuadSplitsCardSaid : Prop := Claim7.holds Tryz.pinned (.plain (OpenSpec.ofChange quadSplitsSpec)) quadSplitsCard

/-- THE SECOND FORM's CARD OF 'abaculuslaw12.QuadSplits'. -/
def quadSplitsUptoCard : Claim7 := { stood := { row := quadSplitsUptoRow, standIns := [], harness := (true, "8b288c02bc33d8acc42a25c0ab6b375d1d5f27779450d5a0d695dd8683979f87"), looks := false }, kinds := [], alts := [], laidByText := true, laidKinds := [.data], laidTests := true, laidLooks := .later }
def QuadSplitsUptoCardSaid : Prop := Claim7.holds Tryz.pinned (.plain (OpenSpec.upto quadSplitsSpec)) quadSplitsUptoCard
end Rows
end Go.Proofs.YtleakmppfpkbjaaGreatDoor
