/-
  DERIVED. GIVEN WITH THE SEED: THE CARDS: each row of YtnciifikfkpanaaGreatDoorRows.lean that lists a variable, with what it lists TIED to the program's text (the seventh form; the later family's looks); each row that meets fmt, with fmt's text TOLD by the authors' own Lean function (tested against real Go, not proved from fmt's source: count such statements apart). THE CARD IS WHAT COUNTS. Prove the row's statement (the work); the ties are given (YtnciifikfkpanaaGreatDoorTie.lean); close each card by the builder's one call (the guide's Derived/Test/ToyasCard.lean, 'card_holds'). Laid BY PROGRAM, IN A SANDBOX (cutbox-door.mjs). By AI agents, Wed Nov 11 2026. No macro, syntax, notation, axiom, sorry.
-/
import Derived.Test.YtnciifikfkpanaaGreatDoorRows
import GoSem.ClaimSeven
namespace Go.Proofs.YtnciifikfkpanaaGreatDoor
namespace Rows

/-- THE TIED CARD OF 'abaculuslaw12.QuadUnits'. -/
def quadUnitsCard : Claim7 := { stood := { row := quadUnitsRow, standIns := [], harness := (true, "f4aeb4dc3c02353ad7936d524ad08993a14337690fc5c1d3a536bad659b3abb4"), looks := false }, kinds := [], alts := [], laidByText := true, laidKinds := [.data], laidTests := true, laidLooks := .later }
def QuadUnitsCardSaid : Prop := Claim7.holds Tryz.pinned (.plain (OpenSpec.ofChange quadUnitsSpec)) quadUnitsCard

/-- THE TIED CARD OF 'abaculuslaw32.MarginOne'. -/
def marginOneCard : Claim7 := { stood := { row := marginOneRow, standIns := [], harness := (true, "f4aeb4dc3c02353ad7936d524ad08993a14337690fc5c1d3a536bad659b3abb4"), looks := false }, kinds := [], alts := [], laidByText := true, laidKinds := [.data], laidTests := true, laidLooks := .later }
def MarginOneCardSaid : Prop := Claim7.holds Tryz.pinned (.plain (OpenSpec.ofChange marginOneSpec)) marginOneCard

/-- THE TIED CARD OF 'abaculuslaw32.MarginProofs'. -/
def marginProofsCard : Claim7 := { stood := { row := marginProofsRow, standIns := [], harness := (true, "f4aeb4dc3c02353ad7936d524ad08993a14337690fc5c1d3a536bad659b3abb4"), looks := false }, kinds := [], alts := [], laidByText := true, laidKinds := [.data], laidTests := true, laidLooks := .later }
def MarginProofsCardSaid : Prop := Claim7.holds Tryz.pinned (.plain (OpenSpec.ofChange marginProofsSpec)) marginProofsCard

/-- THE TIED CARD OF 'abaculuslaw32.MarginFits'. -/
def marginFitsCard : Claim7 := { stood := { row := marginFitsRow, standIns := [], harness := (true, "f4aeb4dc3c02353ad7936d524ad08993a14337690fc5c1d3a536bad659b3abb4"), looks := false }, kinds := [], alts := [], laidByText := true, laidKinds := [.data], laidTests := true, laidLooks := .later }
def MarginFitsCardSaid : Prop := Claim7.holds Tryz.pinned (.plain (OpenSpec.ofChange marginFitsSpec)) marginFitsCard

/-- THE TIED CARD OF 'abaculuslaw32.MarginKnown'. -/
def marginKnownCard : Claim7 := { stood := { row := marginKnownRow, standIns := [], harness := (true, "f4aeb4dc3c02353ad7936d524ad08993a14337690fc5c1d3a536bad659b3abb4"), looks := false }, kinds := [], alts := [], laidByText := true, laidKinds := [.data], laidTests := true, laidLooks := .later }
def MarginKnownCardSaid : Prop := Claim7.holds Tryz.pinned (.plain (OpenSpec.ofChange marginKnownSpec)) marginKnownCard

/-- THE SECOND FORM's CARD OF 'abaculuslaw12.QuadUnits'. -/
def quadUnitsUptoCard : Claim7 := { stood := { row := quadUnitsUptoRow, standIns := [], harness := (true, "f4aeb4dc3c02353ad7936d524ad08993a14337690fc5c1d3a536bad659b3abb4"), looks := false }, kinds := [], alts := [], laidByText := true, laidKinds := [.data], laidTests := true, laidLooks := .later }
def QuadUnitsUptoCardSaid : Prop := Claim7.holds Tryz.pinned (.plain (OpenSpec.upto quadUnitsSpec)) quadUnitsUptoCard

/-- THE SECOND FORM's CARD OF 'abaculuslaw32.MarginOne'. -/
def marginOneUptoCard : Claim7 := { stood := { row := marginOneUptoRow, standIns := [], harness := (true, "f4aeb4dc3c02353ad7936d524ad08993a14337690fc5c1d3a536bad659b3abb4"), looks := false }, kinds := [], alts := [], laidByText := true, laidKinds := [.data], laidTests := true, laidLooks := .later }
def MarginOneUptoCardSaid : Prop := Claim7.holds Tryz.pinned (.plain (OpenSpec.upto marginOneSpec)) marginOneUptoCard

/-- THE SECOND FORM's CARD OF 'abaculuslaw32.MarginProofs'. -/
def marginProofsUptoCard : Claim7 := { stood := { row := marginProofsUptoRow, standIns := [], harness := (true, "f4aeb4dc3c02353ad7936d524ad08993a14337690fc5c1d3a536bad659b3abb4"), looks := false }, kinds := [], alts := [], laidByText := true, laidKinds := [.data], laidTests := true, laidLooks := .later }
def MarginProofsUptoCardSaid : Prop := Claim7.holds Tryz.pinned (.plain (OpenSpec.upto marginProofsSpec)) marginProofsUptoCard

/-- THE SECOND FORM's CARD OF 'abaculuslaw32.MarginFits'. -/
def marginFitsUptoCard : Claim7 := { stood := { row := marginFitsUptoRow, standIns := [], harness := (true, "f4aeb4dc3c02353ad7936d524ad08993a14337690fc5c1d3a536bad659b3abb4"), looks := false }, kinds := [], alts := [], laidByText := true, laidKinds := [.data], laidTests := true, laidLooks := .later }
def MarginFitsUptoCardSaid : Prop := Claim7.holds Tryz.pinned (.plain (OpenSpec.upto marginFitsSpec)) marginFitsUptoCard

/-- THE SECOND FORM's CARD OF 'abaculuslaw32.MarginKnown'. -/
def marginKnownUptoCard : Claim7 := { stood := { row := marginKnownUptoRow, standIns := [], harness := (true, "f4aeb4dc3c02353ad7936d524ad08993a14337690fc5c1d3a536bad659b3abb4"), looks := false }, kinds := [], alts := [], laidByText := true, laidKinds := [.data], laidTests := true, laidLooks := .later }
def MarginKnownUptoCardSaid : Prop := Claim7.holds Tryz.pinned (.plain (OpenSpec.upto marginKnownSpec)) marginKnownUptoCard
end Rows
end Go.Proofs.YtnciifikfkpanaaGreatDoor
