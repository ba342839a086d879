/-
  DERIVED. GIVEN WITH THE SEED: THE CARDS: each row of YtiloialbglfplaaDoorRows.lean that lists a variable, with what it lists TIED to the program's text (the seventh form; the later family's looks); each row that meets fmt, with fmt's text TOLD by the authors' own Lean function (tested against real Go, not proved from fmt's source: count such statements apart). THE CARD IS WHAT COUNTS. Prove the row's statement (the work); the ties are given (YtiloialbglfplaaDoorTie.lean); close each card by the builder's one call (the guide's Derived/Test/ToyasCard.lean, 'card_holds'). Laid BY PROGRAM, IN A SANDBOX (cutbox-door.mjs). By AI agents, Wed Nov 11 2026. No macro, syntax, notation, axiom, sorry.
-/
import Derived.Test.YtiloialbglfplaaDoorRows
import GoSem.ClaimSeven
namespace Go.Proofs.YtiloialbglfplaaDoor
namespace Rows

/-- THE TIED CARD OF 'abaculuslaw2.WholeQuotients'. -/
def wholeQuotientsCard : Claim7 := { stood := { row := wholeQuotientsRow, standIns := [], harness := (true, "8ac324c977e76fbf1ceb476307f5667671508b581dd56d1848a3b28151c156f6"), looks := false }, kinds := [], alts := [], laidByText := true, laidKinds := [.data, .data, .data], laidTests := true, laidLooks := .later }
def WholeQuotientsCardSaid : Prop := Claim7.holds Tryd.pinned (.plain (OpenSpec.ofChange wholeQuotientsSpec)) wholeQuotientsCard

/-- THE TIED CARD OF 'abaculuslaw2.WholeRing'. -/
def wholeRingCard : Claim7 := { stood := { row := wholeRingRow, standIns := [], harness := (true, "8ac324c977e76fbf1ceb476307f5667671508b581dd56d1848a3b28151c156f6"), looks := false }, kinds := [], alts := [], laidByText := true, laidKinds := [.data, .data, .data], laidTests := true, laidLooks := .later }
def WholeRingCardSaid : Prop := Claim7.holds Tryd.pinned (.plain (OpenSpec.ofChange wholeRingSpec)) wholeRingCard

/-- THE TIED CARD OF 'abaculuslaw2.WholeSums'. -/
def wholeSumsCard : Claim7 := { stood := { row := wholeSumsRow, standIns := [], harness := (true, "8ac324c977e76fbf1ceb476307f5667671508b581dd56d1848a3b28151c156f6"), looks := false }, kinds := [], alts := [], laidByText := true, laidKinds := [.data, .data, .data], laidTests := true, laidLooks := .later }
def WholeSumsCardSaid : Prop := Claim7.holds Tryd.pinned (.plain (OpenSpec.ofChange wholeSumsSpec)) wholeSumsCard

/-- THE TIED CARD OF 'abaculuslaw2.WholePowers'. -/
def wholePowersCard : Claim7 := { stood := { row := wholePowersRow, standIns := [], harness := (true, "8ac324c977e76fbf1ceb476307f5667671508b581dd56d1848a3b28151c156f6"), looks := false }, kinds := [], alts := [], laidByText := true, laidKinds := [.data, .data, .data], laidTests := true, laidLooks := .later }
def WholePowersCardSaid : Prop := Claim7.holds Tryd.pinned (.plain (OpenSpec.ofChange wholePowersSpec)) wholePowersCard

/-- THE TIED CARD OF 'abaculuslaw2.WholeBezout'. -/
def wholeBezoutCard : Claim7 := { stood := { row := wholeBezoutRow, standIns := [], harness := (true, "8ac324c977e76fbf1ceb476307f5667671508b581dd56d1848a3b28151c156f6"), looks := false }, kinds := [], alts := [], laidByText := true, laidKinds := [.data, .data, .data], laidTests := true, laidLooks := .later }
def WholeBezoutCardSaid : Prop := Claim7.holds Tryd.pinned (.plain (OpenSpec.ofChange wholeBezoutSpec)) wholeBezoutCard

/-- THE TIED CARD OF 'abaculuslaw2.WholeKnown'. -/
def wholeKnownCard : Claim7 := { stood := { row := wholeKnownRow, standIns := [], harness := (true, "8ac324c977e76fbf1ceb476307f5667671508b581dd56d1848a3b28151c156f6"), looks := false }, kinds := [], alts := [], laidByText := true, laidKinds := [.data, .data, .data], laidTests := true, laidLooks := .later }
def WholeKnownCardSaid : Prop := Claim7.holds Tryd.pinned (.plain (OpenSpec.ofChange wholeKnownSpec)) wholeKnownCard

/-- THE SECOND FORM's CARD OF 'abaculuslaw2.WholeQuotients'. -/
def wholeQuotientsUptoCard : Claim7 := { stood := { row := wholeQuotientsUptoRow, standIns := [], harness := (true, "8ac324c977e76fbf1ceb476307f5667671508b581dd56d1848a3b28151c156f6"), looks := false }, kinds := [], alts := [], laidByText := true, laidKinds := [.data, .data, .data], laidTests := true, laidLooks := .later }
def WholeQuotientsUptoCardSaid : Prop := Claim7.holds Tryd.pinned (.plain (OpenSpec.upto wholeQuotientsSpec)) wholeQuotientsUptoCard

/-- THE SECOND FORM's CARD OF 'abaculuslaw2.WholeRing'. -/
def wholeRingUptoCard : Claim7 := { stood := { row := wholeRingUptoRow, standIns := [], harness := (true, "8ac324c977e76fbf1ceb476307f5667671508b581dd56d1848a3b28151c156f6"), looks := false }, kinds := [], alts := [], laidByText := true, laidKinds := [.data, .data, .data], laidTests := true, laidLooks := .later }
def WholeRingUptoCardSaid : Prop := Claim7.holds Tryd.pinned (.plain (OpenSpec.upto wholeRingSpec)) wholeRingUptoCard

/-- THE SECOND FORM's CARD OF 'abaculuslaw2.WholeSums'. -/
def wholeSumsUptoCard : Claim7 := { stood := { row := wholeSumsUptoRow, standIns := [], harness := (true, "8ac324c977e76fbf1ceb476307f5667671508b581dd56d1848a3b28151c156f6"), looks := false }, kinds := [], alts := [], laidByText := true, laidKinds := [.data, .data, .data], laidTests := true, laidLooks := .later }
def WholeSumsUptoCardSaid : Prop := Claim7.holds Tryd.pinned (.plain (OpenSpec.upto wholeSumsSpec)) wholeSumsUptoCard

/-- THE SECOND FORM's CARD OF 'abaculuslaw2.WholePowers'. -/
def wholePowersUptoCard : Claim7 := { stood := { row := wholePowersUptoRow, standIns := [], harness := (true, "8ac324c977e76fbf1ceb476307f5667671508b581dd56d1848a3b28151c156f6"), looks := false }, kinds := [], alts := [], laidByText := true, laidKinds := [.data, .data, .data], laidTests := true, laidLooks := .later }
def WholePowersUptoCardSaid : Prop := Claim7.holds Tryd.pinned (.plain (OpenSpec.upto wholePowersSpec)) wholePowersUptoCard

/-- THE SECOND FORM's CARD OF 'abaculuslaw2.WholeBezout'. -/
def wholeBezoutUptoCard : Claim7 := { stood := { row := wholeBezoutUptoRow, standIns := [], harness := (true, "8ac324c977e76fbf1ceb476307f5667671508b581dd56d1848a3b28151c156f6"), looks := false }, kinds := [], alts := [], laidByText := true, laidKinds := [.data, .data, .data], laidTests := true, laidLooks := .later }
def WholeBezoutUptoCardSaid : Prop := Claim7.holds Tryd.pinned (.plain (OpenSpec.upto wholeBezoutSpec)) wholeBezoutUptoCard

/-- THE SECOND FORM's CARD OF 'abaculuslaw2.WholeKnown'. -/
def wholeKnownUptoCard : Claim7 := { stood := { row := wholeKnownUptoRow, standIns := [], harness := (true, "8ac324c977e76fbf1ceb476307f5667671508b581dd56d1848a3b28151c156f6"), looks := false }, kinds := [], alts := [], laidByText := true, laidKinds := [.data, .data, .data], laidTests := true, laidLooks := .later }
def WholeKnownUptoCardSaid : Prop := Claim7.holds Tryd.pinned (.plain (OpenSpec.upto wholeKnownSpec)) wholeKnownUptoCard
end Rows
end Go.Proofs.YtiloialbglfplaaDoor
