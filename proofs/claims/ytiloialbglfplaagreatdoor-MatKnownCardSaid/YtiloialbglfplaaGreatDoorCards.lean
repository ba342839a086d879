/-
  DERIVED. GIVEN WITH THE SEED: THE CARDS: each row of YtiloialbglfplaaGreatDoorRows.lean that lists a variable, with what it lists TIED to the program's text (the seventh form; the later family's looks); each row that meets fmt, with fmt's text TOLD by the authors' own Lean function (tested against real Go, not proved from fmt's source: count such statements apart). THE CARD IS WHAT COUNTS. Prove the row's statement (the work); the ties are given (YtiloialbglfplaaGreatDoorTie.lean); close each card by the builder's one call (the guide's Derived/Test/ToyasCard.lean, 'card_holds'). Laid BY PROGRAM, IN A SANDBOX (cutbox-door.mjs). By AI agents, Wed Nov 11 2026. No macro, syntax, notation, axiom, sorry.
-/
import Derived.Test.YtiloialbglfplaaGreatDoorRows
import GoSem.ClaimSeven
namespace Go.Proofs.YtiloialbglfplaaGreatDoor
namespace Rows

/-- THE TIED CARD OF 'abaculuslaw10.MatUpright'. -/
def matUprightCard : Claim7 := { stood := { row := matUprightRow, standIns := [], harness := (true, "71d26e5647a934c1a72b0ca548fb60aff3cd87c649e0beb03551e8537d07d883"), looks := false }, kinds := [], alts := [], laidByText := true, laidKinds := [.data], laidTests := true, laidLooks := .later }
def MatUprightCardSaid : Prop := Claim7.holds Tryz.pinned (.plain (OpenSpec.ofChange matUprightSpec)) matUprightCard

/-- THE TIED CARD OF 'abaculuslaw10.MatRows'. -/
def matRowsCard : Claim7 := { stood := { row := matRowsRow, standIns := [], harness := (true, "71d26e5647a934c1a72b0ca548fb60aff3cd87c649e0beb03551e8537d07d883"), looks := false }, kinds := [], alts := [], laidByText := true, laidKinds := [.data], laidTests := true, laidLooks := .later }
def MatRowsCardSaid : Prop := Claim7.holds Tryz.pinned (.plain (OpenSpec.ofChange matRowsSpec)) matRowsCard

/-- THE TIED CARD OF 'abaculuslaw10.MatPowers'. -/
def matPowersCard : Claim7 := { stood := { row := matPowersRow, standIns := [], harness := (true, "71d26e5647a934c1a72b0ca548fb60aff3cd87c649e0beb03551e8537d07d883"), looks := false }, kinds := [], alts := [], laidByText := true, laidKinds := [.data], laidTests := true, laidLooks := .later }
def MatPowersCardSaid : Prop := Claim7.holds Tryz.pinned (.plain (OpenSpec.ofChange matPowersSpec)) matPowersCard

/-- THE TIED CARD OF 'abaculuslaw10.MatRing'. -/
def matRingCard : Claim7 := { stood := { row := matRingRow, standIns := [], harness := (true, "71d26e5647a934c1a72b0ca548fb60aff3cd87c649e0beb03551e8537d07d883"), looks := false }, kinds := [], alts := [], laidByText := true, laidKinds := [.data], laidTests := true, laidLooks := .later }
def MatRingCardSaid : Prop := Claim7.holds Tryz.pinned (.plain (OpenSpec.ofChange matRingSpec)) matRingCard

/-- THE TIED CARD OF 'abaculuslaw10.MatKnown'. -/
def matKnownCard : Claim7 := { stood := { row := matKnownRow, standIns := [], harness := (true, "71d26e5647a934c1a72b0ca548fb60aff3cd87c649e0beb03551e8537d07d883"), looks := false }, kinds := [], alts := [], laidByText := true, laidKinds := [.data], laidTests := true, laidLooks := .later }
def MatKnownCardSaid : Prop := Claim7.holds Tryz.pinned (.plain (OpenSpec.ofChange matKnownSpec)) matKnownCard

/-- THE TIED CARD OF 'abaculuslaw10.MatTells'. -/
def matTellsCard : Claim7 := { stood := { row := matTellsRow, standIns := [], harness := (true, "71d26e5647a934c1a72b0ca548fb60aff3cd87c649e0beb03551e8537d07d883"), looks := false }, kinds := [], alts := [], laidByText := true, laidKinds := [.data], laidTests := true, laidLooks := .later }
def MatTellsCardSaid : Prop := Claim7.holds Tryz.pinned (.plain (OpenSpec.ofChange matTellsSpec)) matTellsCard

/-- THE TIED CARD OF 'abaculuslaw2.WholeGcd'. -/
def wholeGcdCard : Claim7 := { stood := { row := wholeGcdRow, standIns := [], harness := (true, "71d26e5647a934c1a72b0ca548fb60aff3cd87c649e0beb03551e8537d07d883"), looks := false }, kinds := [], alts := [], laidByText := true, laidKinds := [.data, .data, .data], laidTests := true, laidLooks := .later }
def WholeGcdCardSaid : Prop := Claim7.holds Tryz.pinned (.plain (OpenSpec.ofChange wholeGcdSpec)) wholeGcdCard

/-- THE SECOND FORM's CARD OF 'abaculuslaw10.MatUpright'. -/
def matUprightUptoCard : Claim7 := { stood := { row := matUprightUptoRow, standIns := [], harness := (true, "71d26e5647a934c1a72b0ca548fb60aff3cd87c649e0beb03551e8537d07d883"), looks := false }, kinds := [], alts := [], laidByText := true, laidKinds := [.data], laidTests := true, laidLooks := .later }
def MatUprightUptoCardSaid : Prop := Claim7.holds Tryz.pinned (.plain (OpenSpec.upto matUprightSpec)) matUprightUptoCard

/-- THE SECOND FORM's CARD OF 'abaculuslaw10.MatRows'. -/
def matRowsUptoCard : Claim7 := { stood := { row := matRowsUptoRow, standIns := [], harness := (true, "71d26e5647a934c1a72b0ca548fb60aff3cd87c649e0beb03551e8537d07d883"), looks := false }, kinds := [], alts := [], laidByText := true, laidKinds := [.data], laidTests := true, laidLooks := .later }
def MatRowsUptoCardSaid : Prop := Claim7.holds Tryz.pinned (.plain (OpenSpec.upto matRowsSpec)) matRowsUptoCard

/-- THE SECOND FORM's CARD OF 'abaculuslaw10.MatPowers'. -/
def matPowersUptoCard : Claim7 := { stood := { row := matPowersUptoRow, standIns := [], harness := (true, "71d26e5647a934c1a72b0ca548fb60aff3cd87c649e0beb03551e8537d07d883"), looks := false }, kinds := [], alts := [], laidByText := true, laidKinds := [.data], laidTests := true, laidLooks := .later }
def MatPowersUptoCardSaid : Prop := Claim7.holds Tryz.pinned (.plain (OpenSpec.upto matPowersSpec)) matPowersUptoCard

/-- THE SECOND FORM's CARD OF 'abaculuslaw10.MatRing'. -/
def matRingUptoCard : Claim7 := { stood := { row := matRingUptoRow, standIns := [], harness := (true, "71d26e5647a934c1a72b0ca548fb60aff3cd87c649e0beb03551e8537d07d883"), looks := false }, kinds := [], alts := [], laidByText := true, laidKinds := [.data], laidTests := true, laidLooks := .later }
def MatRingUptoCardSaid : Prop := Claim7.holds Tryz.pinned (.plain (OpenSpec.upto matRingSpec)) matRingUptoCard

/-- THE SECOND FORM's CARD OF 'abaculuslaw10.MatKnown'. -/
def matKnownUptoCard : Claim7 := { stood := { row := matKnownUptoRow, standIns := [], harness := (true, "71d26e5647a934c1a72b0ca548fb60aff3cd87c649e0beb03551e8537d07d883"), looks := false }, kinds := [], alts := [], laidByText := true, laidKinds := [.data], laidTests := true, laidLooks := .later }
def MatKnownUptoCardSaid : Prop := Claim7.holds Tryz.pinned (.plain (OpenSpec.upto matKnownSpec)) matKnownUptoCard

/-- THE SECOND FORM's CARD OF 'abaculuslaw10.MatTells'. -/
def matTellsUptoCard : Claim7 := { stood := { row := matTellsUptoRow, standIns := [], harness := (true, "71d26e5647a934c1a72b0ca548fb60aff3cd87c649e0beb03551e8537d07d883"), looks := false }, kinds := [], alts := [], laidByText := true, laidKinds := [.data], laidTests := true, laidLooks := .later }
def MatTellsUptoCardSaid : Prop := Claim7.holds Tryz.pinned (.plain (OpenSpec.upto matTellsSpec)) matTellsUptoCard

/-- THE SECOND FORM's CARD OF 'abaculuslaw2.WholeGcd'. -/
def wholeGcdUptoCard : Claim7 := { stood := { row := wholeGcdUptoRow, standIns := [], harness := (true, "71d26e5647a934c1a72b0ca548fb60aff3cd87c649e0beb03551e8537d07d883"), looks := false }, kinds := [], alts := [], laidByText := true, laidKinds := [.data, .data, .data], laidTests := true, laidLooks := .later }
def WholeGcdUptoCardSaid : Prop := Claim7.holds Tryz.pinned (.plain (OpenSpec.upto wholeGcdSpec)) wholeGcdUptoCard
end Rows
end Go.Proofs.YtiloialbglfplaaGreatDoor
