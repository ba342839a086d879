/-
  DERIVED. GIVEN WITH THE SEED: THE CARDS: each row of YtlijkeolpmgioaaGreatDoorRows.lean that lists a variable, with what it lists TIED to the program's text (the seventh form; the later family's looks); each row that meets fmt, with fmt's text TOLD by the authors' own Lean function (tested against real Go, not proved from fmt's source: count such statements apart). THE CARD IS WHAT COUNTS. Prove the row's statement (the work); the ties are given (YtlijkeolpmgioaaGreatDoorTie.lean); close each card by the builder's one call (the guide's Derived/Test/ToyasCard.lean, 'card_holds'). Laid BY PROGRAM, IN A SANDBOX (cutbox-door.mjs). By AI agents, Wed Nov 11 2026. No macro, syntax, notation, axiom, sorry.
-/
import Derived.Test.YtlijkeolpmgioaaGreatDoorRows
import GoSem.ClaimSeven
namespace Go.Proofs.YtlijkeolpmgioaaGreatDoor
namespace Rows

/-- THE TIED CARD OF 'abaculuslaw32.MarginProofs'. -/
def marginProofsCard : Claim7 := { stood := { row := marginProofsRow, standIns := [], harness := (true, "012dd158dad9992438c68dfebf830770fae01e67dc1a8fbe59414f2eea9c250f"), looks := false }, kinds := [], alts := [], laidByText := true, laidKinds := [.data], laidTests := true, laidLooks := .later }
def MarginProofsCardSaid : Prop := Claim7.holds Tryz.pinned (.plain (OpenSpec.ofChange marginProofsSpec)) marginProofsCard

/-- THE TIED CARD OF 'abaculuslaw32.MarginFits'. -/
def marginFitsCard : Claim7 := { stood := { row := marginFitsRow, standIns := [], harness := (true, "012dd158dad9992438c68dfebf830770fae01e67dc1a8fbe59414f2eea9c250f"), looks := false }, kinds := [], alts := [], laidByText := true, laidKinds := [.data], laidTests := true, laidLooks := .later }
def MarginFitsCardSaid : Prop := Claim7.holds Tryz.pinned (.plain (OpenSpec.ofChange marginFitsSpec)) marginFitsCard

/-- THE SECOND FORM's CARD OF 'abaculuslaw32.MarginProofs'. -/
def marginProofsUptoCard : Claim7 := { stood := { row := marginProofsUptoRow, standIns := [], harness := (true, "012dd158dad9992438c68dfebf830770fae01e67dc1a8fbe59414f2eea9c250f"), looks := false }, kinds := [], alts := [], laidByText := true, laidKinds := [.data], laidTests := true, laidLooks := .later }
def MarginProofsUptoCardSaid : Prop := Claim7.holds Tryz.pinned (.plain (OpenSpec.upto marginProofsSpec)) marginProofsUptoCard

/-- THE SECOND FORM's CARD OF 'abaculuslaw32.MarginFits'. -/
def marginFitsUptoCard : Claim7 := { stood := { row := marginFitsUptoRow, standIns := [], harness := (true, "012dd158dad9992438c68dfebf830770fae01e67dc1a8fbe59414f2eea9c250f"), looks := false }, kinds := [], alts := [], laidByText := true, laidKinds := [.data], laidTests := true, laidLooks := .later }
def MarginFitsUptoCardSaid : Prop := Claim7.holds Tryz.pinned (.plain (OpenSpec.upto marginFitsSpec)) marginFitsUptoCard
end Rows
end Go.Proofs.YtlijkeolpmgioaaGreatDoor
