/-
  DERIVED. GIVEN WITH THE SEED: THE CARDS: each row of YticmioidfddcfaaGreatDoorRows.lean that lists a variable, with what it lists TIED to the program's text (the seventh form; the later family's looks); each row that meets fmt, with fmt's text TOLD by the authors' own Lean function (tested against real Go, not proved from fmt's source: count such statements apart). THE CARD IS WHAT COUNTS. Prove the row's statement (the work); the ties are given (YticmioidfddcfaaGreatDoorTie.lean); close each card by the builder's one call (the guide's Derived/Test/ToyasCard.lean, 'card_holds'). Laid BY PROGRAM, IN A SANDBOX (cutbox-door.mjs). By AI agents, Wed Nov 11 2026. No macro, syntax, notation, axiom, sorry.
-/
import Derived.Test.YticmioidfddcfaaGreatDoorRows
import GoSem.ClaimSeven
namespace Go.Proofs.YticmioidfddcfaaGreatDoor
namespace Rows

/-- THE TIED CARD OF 'abaculuslaw11.ElimProofs'. -/
def elimProofsCard : Claim7 := { stood := { row := elimProofsRow, standIns := [], harness := (true, "9b92ef57af9948153a58aa466dca2ec315472ff4b761710af1bb09802e5f00b0"), looks := false }, kinds := [], alts := [], laidByText := true, laidKinds := [.data, .data, .data], laidTests := true, laidLooks := .later }
def ElimProofsCardSaid : Prop := Claim7.holds Tryz.pinned (.plain (OpenSpec.ofChange elimProofsSpec)) elimProofsCard

/-- THE TIED CARD OF 'abaculuslaw11.ElimKnown'. -/
def elimKnownCard : Claim7 := { stood := { row := elimKnownRow, standIns := [], harness := (true, "9b92ef57af9948153a58aa466dca2ec315472ff4b761710af1bb09802e5f00b0"), looks := false }, kinds := [], alts := [], laidByText := true, laidKinds := [.data, .data, .data], laidTests := true, laidLooks := .later }
def ElimKnownCardSaid : Prop := Claim7.holds Tryz.pinned (.plain (OpenSpec.ofChange elimKnownSpec)) elimKnownCard

/-- THE SECOND FORM's CARD OF 'abaculuslaw11.ElimProofs'. -/
def elimProofsUptoCard : Claim7 := { stood := { row := elimProofsUptoRow, standIns := [], harness := (true, "9b92ef57af9948153a58aa466dca2ec315472ff4b761710af1bb09802e5f00b0"), looks := false }, kinds := [], alts := [], laidByText := true, laidKinds := [.data, .data, .data], laidTests := true, laidLooks := .later }
def ElimProofsUptoCardSaid : Prop := Claim7.holds Tryz.pinned (.plain (OpenSpec.upto elimProofsSpec)) elimProofsUptoCard

/-- THE SECOND FORM's CARD OF 'abaculuslaw11.ElimKnown'. -/
def elimKnownUptoCard : Claim7 := { stood := { row := elimKnownUptoRow, standIns := [], harness := (true, "9b92ef57af9948153a58aa466dca2ec315472ff4b761710af1bb09802e5f00b0"), looks := false }, kinds := [], alts := [], laidByText := true, laidKinds := [.data, .data, .data], laidTests := true, laidLooks := .later }
def ElimKnownUptoCardSaid : Prop := Claim7.holds Tryz.pinned (.plain (OpenSpec.upto elimKnownSpec)) elimKnownUptoCard
end Rows
end Go.Proofs.YticmioidfddcfaaGreatDoor
