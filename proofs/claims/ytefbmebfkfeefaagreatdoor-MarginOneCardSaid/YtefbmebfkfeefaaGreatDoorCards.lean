/-
  DERIVED. GIVEN WITH THE SEED: THE CARDS: each row of YtefbmebfkfeefaaGreatDoorRows.lean that lists a variable, with what it lists TIED to the program's text (the seventh form; the later family's looks); each row that meets fmt, with fmt's text TOLD by the authors' own Lean function (tested against real Go, not proved from fmt's source: count such statements apart). THE CARD IS WHAT COUNTS. Prove the row's statement (the work); the ties are given (YtefbmebfkfeefaaGreatDoorTie.lean); close each card by the builder's one call (the guide's Derived/Test/ToyasCard.lean, 'card_holds'). Laid BY PROGRAM, IN A SANDBOX (cutbox-door.mjs). By AI agents, Wed Nov 11 2026. No macro, syntax, notation, axiom, sorry.
-/
import Derived.Test.YtefbmebfkfeefaaGreatDoorRows
import GoSem.ClaimSeven
namespace Go.Proofs.YtefbmebfkfeefaaGreatDoor
namespace Rows

/-- THE TIED CARD OF 'abaculuslaw32.MarginOne'. -/
def marginOneCard : Claim7 := { stood := { row := marginOneRow, standIns := [], harness := (true, "35cb7836d2956339783118ee6edce4cb4564987ff9cdeeda5d7e86ca8be3b501"), looks := false }, kinds := [], alts := [], laidByText := true, laidKinds := [.data], laidTests := true, laidLooks := .later }
def MarginOneCardSaid : Prop := Claim7.holds Tryz.pinned (.plain (OpenSpec.ofChange marginOneSpec)) marginOneCard

/-- THE TIED CARD OF 'abaculuslaw32.MarginKnown'. -/
def marginKnownCard : Claim7 := { stood := { row := marginKnownRow, standIns := [], harness := (true, "35cb7836d2956339783118ee6edce4cb4564987ff9cdeeda5d7e86ca8be3b501"), looks := false }, kinds := [], alts := [], laidByText := true, laidKinds := [.data], laidTests := true, laidLooks := .later }
def MarginKnownCardSaid : Prop := Claim7.holds Tryz.pinned (.plain (OpenSpec.ofChange marginKnownSpec)) marginKnownCard

/-- THE SECOND FORM's CARD OF 'abaculuslaw32.MarginOne'. -/
def marginOneUptoCard : Claim7 := { stood := { row := marginOneUptoRow, standIns := [], harness := (true, "35cb7836d2956339783118ee6edce4cb4564987ff9cdeeda5d7e86ca8be3b501"), looks := false }, kinds := [], alts := [], laidByText := true, laidKinds := [.data], laidTests := true, laidLooks := .later }
def MarginOneUptoCardSaid : Prop := Claim7.holds Tryz.pinned (.plain (OpenSpec.upto marginOneSpec)) marginOneUptoCard

/-- THE SECOND FORM's CARD OF 'abaculuslaw32.MarginKnown'. -/
def marginKnownUptoCard : Claim7 := { stood := { row := marginKnownUptoRow, standIns := [], harness := (true, "35cb7836d2956339783118ee6edce4cb4564987ff9cdeeda5d7e86ca8be3b501"), looks := false }, kinds := [], alts := [], laidByText := true, laidKinds := [.data], laidTests := true, laidLooks := .later }
def MarginKnownUptoCardSaid : Prop := Claim7.holds Tryz.pinned (.plain (OpenSpec.upto marginKnownSpec)) marginKnownUptoCard
end Rows
end Go.Proofs.YtefbmebfkfeefaaGreatDoor
