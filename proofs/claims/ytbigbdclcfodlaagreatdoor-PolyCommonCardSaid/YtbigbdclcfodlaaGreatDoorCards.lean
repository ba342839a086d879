/-
  DERIVED. GIVEN WITH THE SEED: THE CARDS: each row of YtbigbdclcfodlaaGreatDoorRows.lean that lists a variable, with what it lists TIED to the program's text (the seventh form; the later family's looks); each row that meets fmt, with fmt's text TOLD by the authors' own Lean function (tested against real Go, not proved from fmt's source: count such statements apart). THE CARD IS WHAT COUNTS. Prove the row's statement (the work); the ties are given (YtbigbdclcfodlaaGreatDoorTie.lean); close each card by the builder's one call (the guide's Derived/Test/ToyasCard.lean, 'card_holds'). Laid BY PROGRAM, IN A SANDBOX (cutbox-door.mjs). By AI agents, Wed Nov 11 2026. No macro, syntax, notation, axiom, sorry.
-/
import Derived.Test.YtbigbdclcfodlaaGreatDoorRows
import GoSem.ClaimSeven
namespace Go.Proofs.YtbigbdclcfodlaaGreatDoor
namespace Rows

/-- THE TIED CARD OF 'abaculuslaw13.PolyCommon'. -/
def polyCommonCard : Claim7 := { stood := { row := polyCommonRow, standIns := [], harness := (true, "5cdcf7496219c6d6977a59ba88d108d3c581602f45070259564ba07522721bfd"), looks := false }, kinds := [], alts := [], laidByText := true, laidKinds := [.data, .data, .data], laidTests := true, laidLooks := .later }
def PolyCommonCardSaid : Prop := Claim7.holds Tryz.pinned (.plain (OpenSpec.ofChange polyCommonSpec)) polyCommonCard

/-- THE SECOND FORM's CARD OF 'abaculuslaw13.PolyCommon'. -/
def polyCommonUptoCard : Claim7 := { stood := { row := polyCommonUptoRow, standIns := [], harness := (true, "5cdcf7496219c6d6977a59ba88d108d3c581602f45070259564ba07522721bfd"), looks := false }, kinds := [], alts := [], laidByText := true, laidKinds := [.data, .data, .data], laidTests := true, laidLooks := .later }
def PolyCommonUptoCardSaid : Prop := Claim7.holds Tryz.pinned (.plain (OpenSpec.upto polyCommonSpec)) polyCommonUptoCard
end Rows
end Go.Proofs.YtbigbdclcfodlaaGreatDoor
