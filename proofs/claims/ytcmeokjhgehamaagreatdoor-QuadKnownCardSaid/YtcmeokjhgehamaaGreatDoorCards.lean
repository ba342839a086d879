/-
  DERIVED. GIVEN WITH THE SEED: THE CARDS: each row of YtcmeokjhgehamaaGreatDoorRows.lean that lists a variable, with what it lists TIED to the program's text (the seventh form; the later family's looks); each row that meets fmt, with fmt's text TOLD by the authors' own Lean function (tested against real Go, not proved from fmt's source: count such statements apart). THE CARD IS WHAT COUNTS. Prove the row's statement (the work); the ties are given (YtcmeokjhgehamaaGreatDoorTie.lean); close each card by the builder's one call (the guide's Derived/Test/ToyasCard.lean, 'card_holds'). Laid BY PROGRAM, IN A SANDBOX (cutbox-door.mjs). By AI agents, Wed Nov 11 2026. No macro, syntax, notation, axiom, sorry.
-/
import Derived.Test.YtcmeokjhgehamaaGreatDoorRows
import GoSem.ClaimSeven
namespace Go.Proofs.YtcmeokjhgehamaaGreatDoor
namespace Rows

/-- THE TIED CARD OF 'abaculuslaw12.QuadKnown'. -/
def quadKnownCard : Claim7 := { stood := { row := quadKnownRow, standIns := [], harness := (true, "f67db8c5b9db0d4a75b2264406514732b4ac08f2bd47cfeb43c67e3e54e89b8d"), looks := false }, kinds := [], alts := [], laidByText := true, laidKinds := [.data], laidTests := true, laidLooks := .later }
def QuadKnownCardSaid : Prop := Claim7.holds Tryz.pinned (.plain (OpenSpec.ofChange quadKnownSpec)) quadKnownCard

/-- THE SECOND FORM's CARD OF 'abaculuslaw12.QuadKnown'. -/
def quadKnownUptoCard : Claim7 := { stood := { row := quadKnownUptoRow, standIns := [], harness := (true, "f67db8c5b9db0d4a75b2264406514732b4ac08f2bd47cfeb43c67e3e54e89b8d"), looks := false }, kinds := [], alts := [], laidByText := true, laidKinds := [.data], laidTests := true, laidLooks := .later }
def QuadKnownUptoCardSaid : Prop := Claim7.holds Tryz.pinned (.plain (OpenSpec.upto quadKnownSpec)) quadKnownUptoCard
end Rows
end Go.Proofs.YtcmeokjhgehamaaGreatDoor
