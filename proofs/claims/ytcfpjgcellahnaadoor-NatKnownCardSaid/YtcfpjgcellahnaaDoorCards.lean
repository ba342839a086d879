/-
  DERIVED. GIVEN WITH THE SEED: THE CARDS: each row of YtcfpjgcellahnaaDoorRows.lean that lists a variable, with what it lists TIED to the program's text (the seventh form; the later family's looks); each row that meets fmt, with fmt's text TOLD by the authors' own Lean function (tested against real Go, not proved from fmt's source: count such statements apart). THE CARD IS WHAT COUNTS. Prove the row's statement (the work); the ties are given (YtcfpjgcellahnaaDoorTie.lean); close each card by the builder's one call (the guide's Derived/Test/ToyasCard.lean, 'card_holds'). Laid BY PROGRAM, IN A SANDBOX (cutbox-door.mjs). By AI agents, Wed Nov 11 2026. No macro, syntax, notation, axiom, sorry.
-/
import Derived.Test.YtcfpjgcellahnaaDoorRows
import GoSem.ClaimSeven
namespace Go.Proofs.YtcfpjgcellahnaaDoor
namespace Rows

/-- THE TIED CARD OF 'abaculuslaw1.NatSmalls'. -/
def natSmallsCard : Claim7 := { stood := { row := natSmallsRow, standIns := [], harness := (true, "f541a2a6692b87fb9ba917e56d1ff6fb3584fc327257c3278cbded7b8a2d2dd0"), looks := false }, kinds := [], alts := [], laidByText := true, laidKinds := [.data, .data, .data], laidTests := true, laidLooks := .later }
def NatSmallsCardSaid : Prop := Claim7.holds Tryd.pinned (.plain (OpenSpec.ofChange natSmallsSpec)) natSmallsCard

/-- THE TIED CARD OF 'abaculuslaw1.NatQuotients'. -/
def natQuotientsCard : Claim7 := { stood := { row := natQuotientsRow, standIns := [], harness := (true, "f541a2a6692b87fb9ba917e56d1ff6fb3584fc327257c3278cbded7b8a2d2dd0"), looks := false }, kinds := [], alts := [], laidByText := true, laidKinds := [.data, .data, .data], laidTests := true, laidLooks := .later }
def NatQuotientsCardSaid : Prop := Claim7.holds Tryd.pinned (.plain (OpenSpec.ofChange natQuotientsSpec)) natQuotientsCard

/-- THE TIED CARD OF 'abaculuslaw1.NatTexts'. -/
def natTextsCard : Claim7 := { stood := { row := natTextsRow, standIns := [], harness := (true, "f541a2a6692b87fb9ba917e56d1ff6fb3584fc327257c3278cbded7b8a2d2dd0"), looks := false }, kinds := [], alts := [], laidByText := true, laidKinds := [.data, .data, .data], laidTests := true, laidLooks := .later }
def NatTextsCardSaid : Prop := Claim7.holds Tryd.pinned (.plain (OpenSpec.ofChange natTextsSpec)) natTextsCard

/-- THE TIED CARD OF 'abaculuslaw1.NatBack'. -/
def natBackCard : Claim7 := { stood := { row := natBackRow, standIns := [], harness := (true, "f541a2a6692b87fb9ba917e56d1ff6fb3584fc327257c3278cbded7b8a2d2dd0"), looks := false }, kinds := [], alts := [], laidByText := true, laidKinds := [.data, .data, .data], laidTests := true, laidLooks := .later }
def NatBackCardSaid : Prop := Claim7.holds Tryd.pinned (.plain (OpenSpec.ofChange natBackSpec)) natBackCard

/-- THE TIED CARD OF 'abaculuslaw1.NatRoots'. -/
def natRootsCard : Claim7 := { stood := { row := natRootsRow, standIns := [], harness := (true, "f541a2a6692b87fb9ba917e56d1ff6fb3584fc327257c3278cbded7b8a2d2dd0"), looks := false }, kinds := [], alts := [], laidByText := true, laidKinds := [.data, .data, .data], laidTests := true, laidLooks := .later }
def NatRootsCardSaid : Prop := Claim7.holds Tryd.pinned (.plain (OpenSpec.ofChange natRootsSpec)) natRootsCard

/-- THE TIED CARD OF 'abaculuslaw1.NatRing'. -/
def natRingCard : Claim7 := { stood := { row := natRingRow, standIns := [], harness := (true, "f541a2a6692b87fb9ba917e56d1ff6fb3584fc327257c3278cbded7b8a2d2dd0"), looks := false }, kinds := [], alts := [], laidByText := true, laidKinds := [.data, .data, .data], laidTests := true, laidLooks := .later }
def NatRingCardSaid : Prop := Claim7.holds Tryd.pinned (.plain (OpenSpec.ofChange natRingSpec)) natRingCard

/-- THE TIED CARD OF 'abaculuslaw1.NatSums'. -/
def natSumsCard : Claim7 := { stood := { row := natSumsRow, standIns := [], harness := (true, "f541a2a6692b87fb9ba917e56d1ff6fb3584fc327257c3278cbded7b8a2d2dd0"), looks := false }, kinds := [], alts := [], laidByText := true, laidKinds := [.data, .data, .data], laidTests := true, laidLooks := .later }
def NatSumsCardSaid : Prop := Claim7.holds Tryd.pinned (.plain (OpenSpec.ofChange natSumsSpec)) natSumsCard

/-- THE TIED CARD OF 'abaculuslaw1.NatShifts'. -/
def natShiftsCard : Claim7 := { stood := { row := natShiftsRow, standIns := [], harness := (true, "f541a2a6692b87fb9ba917e56d1ff6fb3584fc327257c3278cbded7b8a2d2dd0"), looks := false }, kinds := [], alts := [], laidByText := true, laidKinds := [.data, .data, .data], laidTests := true, laidLooks := .later }
def NatShiftsCardSaid : Prop := Claim7.holds Tryd.pinned (.plain (OpenSpec.ofChange natShiftsSpec)) natShiftsCard

/-- THE TIED CARD OF 'abaculuslaw2.WholeQuotients'. -/
def wholeQuotientsCard : Claim7 := { stood := { row := wholeQuotientsRow, standIns := [], harness := (true, "f541a2a6692b87fb9ba917e56d1ff6fb3584fc327257c3278cbded7b8a2d2dd0"), looks := false }, kinds := [], alts := [], laidByText := true, laidKinds := [.data, .data, .data], laidTests := true, laidLooks := .later }
def WholeQuotientsCardSaid : Prop := Claim7.holds Tryd.pinned (.plain (OpenSpec.ofChange wholeQuotientsSpec)) wholeQuotientsCard

/-- THE TIED CARD OF 'abaculuslaw2.WholeRing'. -/
def wholeRingCard : Claim7 := { stood := { row := wholeRingRow, standIns := [], harness := (true, "f541a2a6692b87fb9ba917e56d1ff6fb3584fc327257c3278cbded7b8a2d2dd0"), looks := false }, kinds := [], alts := [], laidByText := true, laidKinds := [.data, .data, .data], laidTests := true, laidLooks := .later }
def WholeRingCardSaid : Prop := Claim7.holds Tryd.pinned (.plain (OpenSpec.ofChange wholeRingSpec)) wholeRingCard

/-- THE TIED CARD OF 'abaculuslaw1.NatKnown'. -/
def natKnownCard : Claim7 := { stood := { row := natKnownRow, standIns := [], harness := (true, "f541a2a6692b87fb9ba917e56d1ff6fb3584fc327257c3278cbded7b8a2d2dd0"), looks := false }, kinds := [], alts := [], laidByText := true, laidKinds := [.data, .data, .data], laidTests := true, laidLooks := .later }
def NatKnownCardSaid : Prop := Claim7.holds Tryd.pinned (.plain (OpenSpec.ofChange natKnownSpec)) natKnownCard

/-- THE TIED CARD OF 'abaculuslaw2.WholeSums'. -/
def wholeSumsCard : Claim7 := { stood := { row := wholeSumsRow, standIns := [], harness := (true, "f541a2a6692b87fb9ba917e56d1ff6fb3584fc327257c3278cbded7b8a2d2dd0"), looks := false }, kinds := [], alts := [], laidByText := true, laidKinds := [.data, .data, .data], laidTests := true, laidLooks := .later }
def WholeSumsCardSaid : Prop := Claim7.holds Tryd.pinned (.plain (OpenSpec.ofChange wholeSumsSpec)) wholeSumsCard

/-- THE TIED CARD OF 'abaculuslaw2.WholePowers'. -/
def wholePowersCard : Claim7 := { stood := { row := wholePowersRow, standIns := [], harness := (true, "f541a2a6692b87fb9ba917e56d1ff6fb3584fc327257c3278cbded7b8a2d2dd0"), looks := false }, kinds := [], alts := [], laidByText := true, laidKinds := [.data, .data, .data], laidTests := true, laidLooks := .later }
def WholePowersCardSaid : Prop := Claim7.holds Tryd.pinned (.plain (OpenSpec.ofChange wholePowersSpec)) wholePowersCard

/-- THE TIED CARD OF 'abaculuslaw2.WholeBezout'. -/
def wholeBezoutCard : Claim7 := { stood := { row := wholeBezoutRow, standIns := [], harness := (true, "f541a2a6692b87fb9ba917e56d1ff6fb3584fc327257c3278cbded7b8a2d2dd0"), looks := false }, kinds := [], alts := [], laidByText := true, laidKinds := [.data, .data, .data], laidTests := true, laidLooks := .later }
def WholeBezoutCardSaid : Prop := Claim7.holds Tryd.pinned (.plain (OpenSpec.ofChange wholeBezoutSpec)) wholeBezoutCard

/-- THE TIED CARD OF 'abaculuslaw2.WholeKnown'. -/
def wholeKnownCard : Claim7 := { stood := { row := wholeKnownRow, standIns := [], harness := (true, "f541a2a6692b87fb9ba917e56d1ff6fb3584fc327257c3278cbded7b8a2d2dd0"), looks := false }, kinds := [], alts := [], laidByText := true, laidKinds := [.data, .data, .data], laidTests := true, laidLooks := .later }
def WholeKnownCardSaid : Prop := Claim7.holds Tryd.pinned (.plain (OpenSpec.ofChange wholeKnownSpec)) wholeKnownCard

/-- THE SECOND FORM's CARD OF 'abaculuslaw1.NatSmalls'. -/
def natSmallsUptoCard : Claim7 := { stood := { row := natSmallsUptoRow, standIns := [], harness := (true, "f541a2a6692b87fb9ba917e56d1ff6fb3584fc327257c3278cbded7b8a2d2dd0"), looks := false }, kinds := [], alts := [], laidByText := true, laidKinds := [.data, .data, .data], laidTests := true, laidLooks := .later }
def NatSmallsUptoCardSaid : Prop := Claim7.holds Tryd.pinned (.plain (OpenSpec.upto natSmallsSpec)) natSmallsUptoCard

/-- THE SECOND FORM's CARD OF 'abaculuslaw1.NatQuotients'. -/
def natQuotientsUptoCard : Claim7 := { stood := { row := natQuotientsUptoRow, standIns := [], harness := (true, "f541a2a6692b87fb9ba917e56d1ff6fb3584fc327257c3278cbded7b8a2d2dd0"), looks := false }, kinds := [], alts := [], laidByText := true, laidKinds := [.data, .data, .data], laidTests := true, laidLooks := .later }
def NatQuotientsUptoCardSaid : Prop := Claim7.holds Tryd.pinned (.plain (OpenSpec.upto natQuotientsSpec)) natQuotientsUptoCard

/-- THE SECOND FORM's CARD OF 'abaculuslaw1.NatTexts'. -/
def natTextsUptoCard : Claim7 := { stood := { row := natTextsUptoRow, standIns := [], harness := (true, "f541a2a6692b87fb9ba917e56d1ff6fb3584fc327257c3278cbded7b8a2d2dd0"), looks := false }, kinds := [], alts := [], laidByText := true, laidKinds := [.data, .data, .data], laidTests := true, laidLooks := .later }
def NatTextsUptoCardSaid : Prop := Claim7.holds Tryd.pinned (.plain (OpenSpec.upto natTextsSpec)) natTextsUptoCard

/-- THE SECOND FORM's CARD OF 'abaculuslaw1.NatBack'. -/
def natBackUptoCard : Claim7 := { stood := { row := natBackUptoRow, standIns := [], harness := (true, "f541a2a6692b87fb9ba917e56d1ff6fb3584fc327257c3278cbded7b8a2d2dd0"), looks := false }, kinds := [], alts := [], laidByText := true, laidKinds := [.data, .data, .data], laidTests := true, laidLooks := .later }
def NatBackUptoCardSaid : Prop := Claim7.holds Tryd.pinned (.plain (OpenSpec.upto natBackSpec)) natBackUptoCard

/-- THE SECOND FORM's CARD OF 'abaculuslaw1.NatRoots'. -/
def natRootsUptoCard : Claim7 := { stood := { row := natRootsUptoRow, standIns := [], harness := (true, "f541a2a6692b87fb9ba917e56d1ff6fb3584fc327257c3278cbded7b8a2d2dd0"), looks := false }, kinds := [], alts := [], laidByText := true, laidKinds := [.data, .data, .data], laidTests := true, laidLooks := .later }
def NatRootsUptoCardSaid : Prop := Claim7.holds Tryd.pinned (.plain (OpenSpec.upto natRootsSpec)) natRootsUptoCard

/-- THE SECOND FORM's CARD OF 'abaculuslaw1.NatRing'. -/
def natRingUptoCard : Claim7 := { stood := { row := natRingUptoRow, standIns := [], harness := (true, "f541a2a6692b87fb9ba917e56d1ff6fb3584fc327257c3278cbded7b8a2d2dd0"), looks := false }, kinds := [], alts := [], laidByText := true, laidKinds := [.data, .data, .data], laidTests := true, laidLooks := .later }
def NatRingUptoCardSaid : Prop := Claim7.holds Tryd.pinned (.plain (OpenSpec.upto natRingSpec)) natRingUptoCard

/-- THE SECOND FORM's CARD OF 'abaculuslaw1.NatSums'. -/
def natSumsUptoCard : Claim7 := { stood := { row := natSumsUptoRow, standIns := [], harness := (true, "f541a2a6692b87fb9ba917e56d1ff6fb3584fc327257c3278cbded7b8a2d2dd0"), looks := false }, kinds := [], alts := [], laidByText := true, laidKinds := [.data, .data, .data], laidTests := true, laidLooks := .later }
def NatSumsUptoCardSaid : Prop := Claim7.holds Tryd.pinned (.plain (OpenSpec.upto natSumsSpec)) natSumsUptoCard

/-- THE SECOND FORM's CARD OF 'abaculuslaw1.NatShifts'. -/
def natShiftsUptoCard : Claim7 := { stood := { row := natShiftsUptoRow, standIns := [], harness := (true, "f541a2a6692b87fb9ba917e56d1ff6fb3584fc327257c3278cbded7b8a2d2dd0"), looks := false }, kinds := [], alts := [], laidByText := true, laidKinds := [.data, .data, .data], laidTests := true, laidLooks := .later }
def NatShiftsUptoCardSaid : Prop := Claim7.holds Tryd.pinned (.plain (OpenSpec.upto natShiftsSpec)) natShiftsUptoCard

/-- THE SECOND FORM's CARD OF 'abaculuslaw2.WholeQuotients'. -/
def wholeQuotientsUptoCard : Claim7 := { stood := { row := wholeQuotientsUptoRow, standIns := [], harness := (true, "f541a2a6692b87fb9ba917e56d1ff6fb3584fc327257c3278cbded7b8a2d2dd0"), looks := false }, kinds := [], alts := [], laidByText := true, laidKinds := [.data, .data, .data], laidTests := true, laidLooks := .later }
def WholeQuotientsUptoCardSaid : Prop := Claim7.holds Tryd.pinned (.plain (OpenSpec.upto wholeQuotientsSpec)) wholeQuotientsUptoCard

/-- THE SECOND FORM's CARD OF 'abaculuslaw2.WholeRing'. -/
def wholeRingUptoCard : Claim7 := { stood := { row := wholeRingUptoRow, standIns := [], harness := (true, "f541a2a6692b87fb9ba917e56d1ff6fb3584fc327257c3278cbded7b8a2d2dd0"), looks := false }, kinds := [], alts := [], laidByText := true, laidKinds := [.data, .data, .data], laidTests := true, laidLooks := .later }
def WholeRingUptoCardSaid : Prop := Claim7.holds Tryd.pinned (.plain (OpenSpec.upto wholeRingSpec)) wholeRingUptoCard

/-- THE SECOND FORM's CARD OF 'abaculuslaw1.NatKnown'. -/
def natKnownUptoCard : Claim7 := { stood := { row := natKnownUptoRow, standIns := [], harness := (true, "f541a2a6692b87fb9ba917e56d1ff6fb3584fc327257c3278cbded7b8a2d2dd0"), looks := false }, kinds := [], alts := [], laidByText := true, laidKinds := [.data, .data, .data], laidTests := true, laidLooks := .later }
def NatKnownUptoCardSaid : Prop := Claim7.holds Tryd.pinned (.plain (OpenSpec.upto natKnownSpec)) natKnownUptoCard

/-- THE SECOND FORM's CARD OF 'abaculuslaw2.WholeSums'. -/
def wholeSumsUptoCard : Claim7 := { stood := { row := wholeSumsUptoRow, standIns := [], harness := (true, "f541a2a6692b87fb9ba917e56d1ff6fb3584fc327257c3278cbded7b8a2d2dd0"), looks := false }, kinds := [], alts := [], laidByText := true, laidKinds := [.data, .data, .data], laidTests := true, laidLooks := .later }
def WholeSumsUptoCardSaid : Prop := Claim7.holds Tryd.pinned (.plain (OpenSpec.upto wholeSumsSpec)) wholeSumsUptoCard

/-- THE SECOND FORM's CARD OF 'abaculuslaw2.WholePowers'. -/
def wholePowersUptoCard : Claim7 := { stood := { row := wholePowersUptoRow, standIns := [], harness := (true, "f541a2a6692b87fb9ba917e56d1ff6fb3584fc327257c3278cbded7b8a2d2dd0"), looks := false }, kinds := [], alts := [], laidByText := true, laidKinds := [.data, .data, .data], laidTests := true, laidLooks := .later }
def WholePowersUptoCardSaid : Prop := Claim7.holds Tryd.pinned (.plain (OpenSpec.upto wholePowersSpec)) wholePowersUptoCard

/-- THE SECOND FORM's CARD OF 'abaculuslaw2.WholeBezout'. -/
def wholeBezoutUptoCard : Claim7 := { stood := { row := wholeBezoutUptoRow, standIns := [], harness := (true, "f541a2a6692b87fb9ba917e56d1ff6fb3584fc327257c3278cbded7b8a2d2dd0"), looks := false }, kinds := [], alts := [], laidByText := true, laidKinds := [.data, .data, .data], laidTests := true, laidLooks := .later }
def WholeBezoutUptoCardSaid : Prop := Claim7.holds Tryd.pinned (.plain (OpenSpec.upto wholeBezoutSpec)) wholeBezoutUptoCard

/-- THE SECOND FORM's CARD OF 'abaculuslaw2.WholeKnown'. -/
def wholeKnownUptoCard : Claim7 := { stood := { row := wholeKnownUptoRow, standIns := [], harness := (true, "f541a2a6692b87fb9ba917e56d1ff6fb3584fc327257c3278cbded7b8a2d2dd0"), looks := false }, kinds := [], alts := [], laidByText := true, laidKinds := [.data, .data, .data], laidTests := true, laidLooks := .later }
def WholeKnownUptoCardSaid : Prop := Claim7.holds Tryd.pinned (.plain (OpenSpec.upto wholeKnownSpec)) wholeKnownUptoCard
end Rows
end Go.Proofs.YtcfpjgcellahnaaDoor
