/-
  NARROWER THAN 'FOR EVERY INPUT', by the rows' own cells (each row's printed sentence says how): NatSmalls: laid · NatQuotients: laid · NatTexts: laid · NatBack: laid · NatRoots: laid · NatRing: laid · NatSums: laid · NatShifts: laid · WholeQuotients: laid · WholeRing: laid · NatKnown: laid · WholeSums: laid · WholePowers: laid · WholeBezout: laid · WholeKnown: laid.
  DERIVED. THE GIVEN ROWS OF THIS SEAT. 15 by the template 'for every input the law returns true; each argument reads behind the call as it read before'; 0 by the template 'total and deterministic' (their statements: YtcfpjgcellahnaaDoorTotals.lean).
  GIVEN WITH THE SEED: the statements are not yours to turn. If you find one false, say at which input.
  Laid BY PROGRAM, IN A SANDBOX (cutbox-rows.mjs): the forced cells as the released guide's own fill.sh prints them over the translation bff438771f318cdc… (all of the seat's roots in one cut). By AI agents, Wed Nov 11 2026. No macro, syntax, notation, axiom, sorry.
-/
import Derived.Test.YtcfpjgcellahnaaDoorChecked
import GoSem.Claim
import GoSem.ClaimJoined
import GoSem.ClaimMapViews
import Derived.JoinedTies
import Derived.KernelRfl
namespace Go.Proofs.YtcfpjgcellahnaaDoor
/- THE CELL 'sum', in the pinned program and in every row, IS THE sha256 OF THE DUMP (.gsa) THAT YtcfpjgcellahnaaDoorProg.lean LOADS. Nothing in Lean hashes anything: it is a label: what it is worth is what the hold of that sum in a sandbox is worth. -/
noncomputable def Tryd.pinned : Pinned := { name := "ytcfpjgcellahnaadoor", sum := "bff438771f318cdcf68c763b581c8a70b7137276a30e70d84d9e88a7b96f8823", checked := Tryd.checked }
namespace Rows
def none {H : Type} : Left H := { results := [], args := [] }

/- WHAT THE LISTED PACKAGE-LEVEL VARIABLES READ AS WHEN THE CALL BEGINS. Each datum BY PROGRAM (the guide's laid-datum.mjs) off the statement by which the dump's own 'gosem.cut.vars' lays the variable. In a bare row this is a premise. The card (YtcfpjgcellahnaaDoorCards.lean) ties it to the program's text. -/
def laid_math_bits_deBruijn32tab {H : Type} : DataW H := .agg [.lit (.int .u8 0), .lit (.int .u8 1), .lit (.int .u8 28), .lit (.int .u8 2), .lit (.int .u8 29), .lit (.int .u8 14), .lit (.int .u8 24), .lit (.int .u8 3), .lit (.int .u8 30), .lit (.int .u8 22), .lit (.int .u8 20), .lit (.int .u8 15), .lit (.int .u8 25), .lit (.int .u8 17), .lit (.int .u8 4), .lit (.int .u8 8), .lit (.int .u8 31), .lit (.int .u8 27), .lit (.int .u8 13), .lit (.int .u8 23), .lit (.int .u8 21), .lit (.int .u8 19), .lit (.int .u8 16), .lit (.int .u8 7), .lit (.int .u8 26), .lit (.int .u8 12), .lit (.int .u8 18), .lit (.int .u8 6), .lit (.int .u8 11), .lit (.int .u8 5), .lit (.int .u8 10), .lit (.int .u8 9)]
def laid_math_bits_deBruijn64tab {H : Type} : DataW H := .agg [.lit (.int .u8 0), .lit (.int .u8 1), .lit (.int .u8 56), .lit (.int .u8 2), .lit (.int .u8 57), .lit (.int .u8 49), .lit (.int .u8 28), .lit (.int .u8 3), .lit (.int .u8 61), .lit (.int .u8 58), .lit (.int .u8 42), .lit (.int .u8 50), .lit (.int .u8 38), .lit (.int .u8 29), .lit (.int .u8 17), .lit (.int .u8 4), .lit (.int .u8 62), .lit (.int .u8 47), .lit (.int .u8 59), .lit (.int .u8 36), .lit (.int .u8 45), .lit (.int .u8 43), .lit (.int .u8 51), .lit (.int .u8 22), .lit (.int .u8 53), .lit (.int .u8 39), .lit (.int .u8 33), .lit (.int .u8 30), .lit (.int .u8 24), .lit (.int .u8 18), .lit (.int .u8 12), .lit (.int .u8 5), .lit (.int .u8 63), .lit (.int .u8 55), .lit (.int .u8 48), .lit (.int .u8 27), .lit (.int .u8 60), .lit (.int .u8 41), .lit (.int .u8 37), .lit (.int .u8 16), .lit (.int .u8 46), .lit (.int .u8 35), .lit (.int .u8 44), .lit (.int .u8 21), .lit (.int .u8 52), .lit (.int .u8 32), .lit (.int .u8 23), .lit (.int .u8 11), .lit (.int .u8 54), .lit (.int .u8 26), .lit (.int .u8 40), .lit (.int .u8 15), .lit (.int .u8 34), .lit (.int .u8 20), .lit (.int .u8 31), .lit (.int .u8 10), .lit (.int .u8 25), .lit (.int .u8 14), .lit (.int .u8 19), .lit (.int .u8 9), .lit (.int .u8 13), .lit (.int .u8 8), .lit (.int .u8 7), .lit (.int .u8 6)]
def laid_internal_strconv_uint64pow10 {H : Type} : DataW H := .agg [.lit (.int .u64 1), .lit (.int .u64 10), .lit (.int .u64 100), .lit (.int .u64 1000), .lit (.int .u64 10000), .lit (.int .u64 100000), .lit (.int .u64 1000000), .lit (.int .u64 10000000), .lit (.int .u64 100000000), .lit (.int .u64 1000000000), .lit (.int .u64 10000000000), .lit (.int .u64 100000000000), .lit (.int .u64 1000000000000), .lit (.int .u64 10000000000000), .lit (.int .u64 100000000000000), .lit (.int .u64 1000000000000000), .lit (.int .u64 10000000000000000), .lit (.int .u64 100000000000000000), .lit (.int .u64 1000000000000000000), .lit (.int .u64 10000000000000000000)]

/-- 'abaculuslaw1.NatSmalls': WHATEVER THE INPUT: true; the input reads as it did. -/
def natSmallsSpec : ChangeSpec := { name := "natSmalls", fn := fun _ => fun
  | [d] => { results := [.lit (.bool true)], args := [d] }
  | _ => none }
def natSmallsRow : OpenClaim := { program := "ytcfpjgcellahnaadoor", sum := "bff438771f318cdcf68c763b581c8a70b7137276a30e70d84d9e88a7b96f8823", func := "abaculus/abaculuslaw1.NatSmalls", spec := "natSmalls", inPlace := ["math/bits.Add64", "internal/abi.NoEscape", "internal/bytealg.MakeNoZero", "math/bits.Sub64"], named := ["math/bits.divideError", "math/bits.overflowError", "internal/strconv.uint64pow10", "math/bits.deBruijn32tab", "math/bits.deBruijn64tab"], apart := false, laid := [("math/bits.deBruijn32tab", laid_math_bits_deBruijn32tab), ("math/bits.deBruijn64tab", laid_math_bits_deBruijn64tab), ("internal/strconv.uint64pow10", laid_internal_strconv_uint64pow10)] }
def NatSmallsSaid : Prop := natSmallsRow.holds Tryd.pinned (OpenSpec.ofChange natSmallsSpec)

/-- ITS FALSE NEIGHBOUR: 'it returns false'. Refute it at one input. -/
def natSmallsWrong : ChangeSpec := { name := "natSmalls", fn := fun _ => fun
  | [d] => { results := [.lit (.bool false)], args := [d] }
  | _ => none }
def NatSmallsWrongFalsely : Prop := natSmallsRow.holds Tryd.pinned (OpenSpec.ofChange natSmallsWrong)

/-- 'abaculuslaw1.NatQuotients': WHATEVER THE INPUT: true; the input reads as it did. -/
def natQuotientsSpec : ChangeSpec := { name := "natQuotients", fn := fun _ => fun
  | [d1, d2, d3] => { results := [.lit (.bool true)], args := [d1, d2, d3] }
  | _ => none }
def natQuotientsRow : OpenClaim := { program := "ytcfpjgcellahnaadoor", sum := "bff438771f318cdcf68c763b581c8a70b7137276a30e70d84d9e88a7b96f8823", func := "abaculus/abaculuslaw1.NatQuotients", spec := "natQuotients", inPlace := ["internal/abi.NoEscape", "internal/bytealg.MakeNoZero", "math/bits.Add64", "math/bits.Sub64"], named := ["math/bits.divideError", "math/bits.overflowError", "internal/strconv.uint64pow10", "math/bits.deBruijn32tab", "math/bits.deBruijn64tab"], apart := false, laid := [("math/bits.deBruijn32tab", laid_math_bits_deBruijn32tab), ("math/bits.deBruijn64tab", laid_math_bits_deBruijn64tab), ("internal/strconv.uint64pow10", laid_internal_strconv_uint64pow10)] }
def NatQuotientsSaid : Prop := natQuotientsRow.holds Tryd.pinned (OpenSpec.ofChange natQuotientsSpec)

/-- ITS FALSE NEIGHBOUR: 'it returns false'. Refute it at one input. -/
def natQuotientsWrong : ChangeSpec := { name := "natQuotients", fn := fun _ => fun
  | [d1, d2, d3] => { results := [.lit (.bool false)], args := [d1, d2, d3] }
  | _ => none }
def NatQuotientsWrongFalsely : Prop := natQuotientsRow.holds Tryd.pinned (OpenSpec.ofChange natQuotientsWrong)

/-- 'abaculuslaw1.NatTexts': WHATEVER THE INPUT: true; the input reads as it did. -/
def natTextsSpec : ChangeSpec := { name := "natTexts", fn := fun _ => fun
  | [d1, d2, d3] => { results := [.lit (.bool true)], args := [d1, d2, d3] }
  | _ => none }
def natTextsRow : OpenClaim := { program := "ytcfpjgcellahnaadoor", sum := "bff438771f318cdcf68c763b581c8a70b7137276a30e70d84d9e88a7b96f8823", func := "abaculus/abaculuslaw1.NatTexts", spec := "natTexts", inPlace := ["internal/abi.NoEscape", "internal/bytealg.MakeNoZero", "math/bits.Add64", "math/bits.Sub64"], named := ["math/bits.divideError", "math/bits.overflowError", "internal/strconv.uint64pow10", "math/bits.deBruijn32tab", "math/bits.deBruijn64tab"], apart := false, laid := [("math/bits.deBruijn32tab", laid_math_bits_deBruijn32tab), ("math/bits.deBruijn64tab", laid_math_bits_deBruijn64tab), ("internal/strconv.uint64pow10", laid_internal_strconv_uint64pow10)] }
def NatTextsSaid : Prop := natTextsRow.holds Tryd.pinned (OpenSpec.ofChange natTextsSpec)

/-- ITS FALSE NEIGHBOUR: 'it returns false'. Refute it at one input. -/
def natTextsWrong : ChangeSpec := { name := "natTexts", fn := fun _ => fun
  | [d1, d2, d3] => { results := [.lit (.bool false)], args := [d1, d2, d3] }
  | _ => none }
def NatTextsWrongFalsely : Prop := natTextsRow.holds Tryd.pinned (OpenSpec.ofChange natTextsWrong)

/-- 'abaculuslaw1.NatBack': WHATEVER THE INPUT: true; the input reads as it did. -/
def natBackSpec : ChangeSpec := { name := "natBack", fn := fun _ => fun
  | [d1, d2] => { results := [.lit (.bool true)], args := [d1, d2] }
  | _ => none }
def natBackRow : OpenClaim := { program := "ytcfpjgcellahnaadoor", sum := "bff438771f318cdcf68c763b581c8a70b7137276a30e70d84d9e88a7b96f8823", func := "abaculus/abaculuslaw1.NatBack", spec := "natBack", inPlace := ["internal/abi.NoEscape", "internal/bytealg.MakeNoZero", "math/bits.Add64", "math/bits.Sub64"], named := ["math/bits.divideError", "math/bits.overflowError", "internal/strconv.uint64pow10", "math/bits.deBruijn32tab", "math/bits.deBruijn64tab"], apart := false, laid := [("math/bits.deBruijn32tab", laid_math_bits_deBruijn32tab), ("math/bits.deBruijn64tab", laid_math_bits_deBruijn64tab), ("internal/strconv.uint64pow10", laid_internal_strconv_uint64pow10)] }
def NatBackSaid : Prop := natBackRow.holds Tryd.pinned (OpenSpec.ofChange natBackSpec)

/-- ITS FALSE NEIGHBOUR: 'it returns false'. Refute it at one input. -/
def natBackWrong : ChangeSpec := { name := "natBack", fn := fun _ => fun
  | [d1, d2] => { results := [.lit (.bool false)], args := [d1, d2] }
  | _ => none }
def NatBackWrongFalsely : Prop := natBackRow.holds Tryd.pinned (OpenSpec.ofChange natBackWrong)

/-- 'abaculuslaw1.NatRoots': WHATEVER THE INPUT: true; the input reads as it did. -/
def natRootsSpec : ChangeSpec := { name := "natRoots", fn := fun _ => fun
  | [d] => { results := [.lit (.bool true)], args := [d] }
  | _ => none }
def natRootsRow : OpenClaim := { program := "ytcfpjgcellahnaadoor", sum := "bff438771f318cdcf68c763b581c8a70b7137276a30e70d84d9e88a7b96f8823", func := "abaculus/abaculuslaw1.NatRoots", spec := "natRoots", inPlace := ["internal/abi.NoEscape", "internal/bytealg.MakeNoZero", "math/bits.Add64", "math/bits.Sub64"], named := ["math/bits.divideError", "math/bits.overflowError", "internal/strconv.uint64pow10", "math/bits.deBruijn32tab", "math/bits.deBruijn64tab"], apart := false, laid := [("math/bits.deBruijn32tab", laid_math_bits_deBruijn32tab), ("math/bits.deBruijn64tab", laid_math_bits_deBruijn64tab), ("internal/strconv.uint64pow10", laid_internal_strconv_uint64pow10)] }
def NatRootsSaid : Prop := natRootsRow.holds Tryd.pinned (OpenSpec.ofChange natRootsSpec)

/-- ITS FALSE NEIGHBOUR: 'it returns false'. Refute it at one input. -/
def natRootsWrong : ChangeSpec := { name := "natRoots", fn := fun _ => fun
  | [d] => { results := [.lit (.bool false)], args := [d] }
  | _ => none }
def NatRootsWrongFalsely : Prop := natRootsRow.holds Tryd.pinned (OpenSpec.ofChange natRootsWrong)

/-- 'abaculuslaw1.NatRing': WHATEVER THE INPUT: true; the input reads as it did. -/
def natRingSpec : ChangeSpec := { name := "natRing", fn := fun _ => fun
  | [d1, d2, d3] => { results := [.lit (.bool true)], args := [d1, d2, d3] }
  | _ => none }
def natRingRow : OpenClaim := { program := "ytcfpjgcellahnaadoor", sum := "bff438771f318cdcf68c763b581c8a70b7137276a30e70d84d9e88a7b96f8823", func := "abaculus/abaculuslaw1.NatRing", spec := "natRing", inPlace := ["internal/abi.NoEscape", "internal/bytealg.MakeNoZero", "math/bits.Add64", "math/bits.Sub64"], named := ["math/bits.divideError", "math/bits.overflowError", "internal/strconv.uint64pow10", "math/bits.deBruijn32tab", "math/bits.deBruijn64tab"], apart := false, laid := [("math/bits.deBruijn32tab", laid_math_bits_deBruijn32tab), ("math/bits.deBruijn64tab", laid_math_bits_deBruijn64tab), ("internal/strconv.uint64pow10", laid_internal_strconv_uint64pow10)] }
def NatRingSaid : Prop := natRingRow.holds Tryd.pinned (OpenSpec.ofChange natRingSpec)

/-- ITS FALSE NEIGHBOUR: 'it returns false'. Refute it at one input. -/
def natRingWrong : ChangeSpec := { name := "natRing", fn := fun _ => fun
  | [d1, d2, d3] => { results := [.lit (.bool false)], args := [d1, d2, d3] }
  | _ => none }
def NatRingWrongFalsely : Prop := natRingRow.holds Tryd.pinned (OpenSpec.ofChange natRingWrong)

/-- 'abaculuslaw1.NatSums': WHATEVER THE INPUT: true; the input reads as it did. -/
def natSumsSpec : ChangeSpec := { name := "natSums", fn := fun _ => fun
  | [d1, d2] => { results := [.lit (.bool true)], args := [d1, d2] }
  | _ => none }
def natSumsRow : OpenClaim := { program := "ytcfpjgcellahnaadoor", sum := "bff438771f318cdcf68c763b581c8a70b7137276a30e70d84d9e88a7b96f8823", func := "abaculus/abaculuslaw1.NatSums", spec := "natSums", inPlace := ["internal/abi.NoEscape", "internal/bytealg.MakeNoZero", "math/bits.Sub64", "math/bits.Add64"], named := ["math/bits.divideError", "math/bits.overflowError", "internal/strconv.uint64pow10", "math/bits.deBruijn32tab", "math/bits.deBruijn64tab"], apart := false, laid := [("math/bits.deBruijn32tab", laid_math_bits_deBruijn32tab), ("math/bits.deBruijn64tab", laid_math_bits_deBruijn64tab), ("internal/strconv.uint64pow10", laid_internal_strconv_uint64pow10)] }
def NatSumsSaid : Prop := natSumsRow.holds Tryd.pinned (OpenSpec.ofChange natSumsSpec)

/-- ITS FALSE NEIGHBOUR: 'it returns false'. Refute it at one input. -/
def natSumsWrong : ChangeSpec := { name := "natSums", fn := fun _ => fun
  | [d1, d2] => { results := [.lit (.bool false)], args := [d1, d2] }
  | _ => none }
def NatSumsWrongFalsely : Prop := natSumsRow.holds Tryd.pinned (OpenSpec.ofChange natSumsWrong)

/-- 'abaculuslaw1.NatShifts': WHATEVER THE INPUT: true; the input reads as it did. -/
def natShiftsSpec : ChangeSpec := { name := "natShifts", fn := fun _ => fun
  | [d1, d2, d3] => { results := [.lit (.bool true)], args := [d1, d2, d3] }
  | _ => none }
def natShiftsRow : OpenClaim := { program := "ytcfpjgcellahnaadoor", sum := "bff438771f318cdcf68c763b581c8a70b7137276a30e70d84d9e88a7b96f8823", func := "abaculus/abaculuslaw1.NatShifts", spec := "natShifts", inPlace := ["internal/abi.NoEscape", "internal/bytealg.MakeNoZero", "math/bits.Add64", "math/bits.Sub64"], named := ["math/bits.divideError", "math/bits.overflowError", "internal/strconv.uint64pow10", "math/bits.deBruijn32tab", "math/bits.deBruijn64tab"], apart := false, laid := [("math/bits.deBruijn32tab", laid_math_bits_deBruijn32tab), ("math/bits.deBruijn64tab", laid_math_bits_deBruijn64tab), ("internal/strconv.uint64pow10", laid_internal_strconv_uint64pow10)] }
def NatShiftsSaid : Prop := natShiftsRow.holds Tryd.pinned (OpenSpec.ofChange natShiftsSpec)

/-- ITS FALSE NEIGHBOUR: 'it returns false'. Refute it at one input. -/
def natShiftsWrong : ChangeSpec := { name := "natShifts", fn := fun _ => fun
  | [d1, d2, d3] => { results := [.lit (.bool false)], args := [d1, d2, d3] }
  | _ => none }
def NatShiftsWrongFalsely : Prop := natShiftsRow.holds Tryd.pinned (OpenSpec.ofChange natShiftsWrong)

/-- 'abaculuslaw2.WholeQuotients': WHATEVER THE INPUT: true; the input reads as it did. -/
def wholeQuotientsSpec : ChangeSpec := { name := "wholeQuotients", fn := fun _ => fun
  | [d1, d2, d3, d4, d5] => { results := [.lit (.bool true)], args := [d1, d2, d3, d4, d5] }
  | _ => none }
def wholeQuotientsRow : OpenClaim := { program := "ytcfpjgcellahnaadoor", sum := "bff438771f318cdcf68c763b581c8a70b7137276a30e70d84d9e88a7b96f8823", func := "abaculus/abaculuslaw2.WholeQuotients", spec := "wholeQuotients", inPlace := ["internal/abi.NoEscape", "internal/bytealg.MakeNoZero", "math/bits.Add64", "math/bits.Sub64"], named := ["math/bits.divideError", "math/bits.overflowError", "internal/strconv.uint64pow10", "math/bits.deBruijn32tab", "math/bits.deBruijn64tab"], apart := false, laid := [("math/bits.deBruijn32tab", laid_math_bits_deBruijn32tab), ("math/bits.deBruijn64tab", laid_math_bits_deBruijn64tab), ("internal/strconv.uint64pow10", laid_internal_strconv_uint64pow10)] }
def WholeQuotientsSaid : Prop := wholeQuotientsRow.holds Tryd.pinned (OpenSpec.ofChange wholeQuotientsSpec)

/-- ITS FALSE NEIGHBOUR: 'it returns false'. Refute it at one input. -/
def wholeQuotientsWrong : ChangeSpec := { name := "wholeQuotients", fn := fun _ => fun
  | [d1, d2, d3, d4, d5] => { results := [.lit (.bool false)], args := [d1, d2, d3, d4, d5] }
  | _ => none }
def WholeQuotientsWrongFalsely : Prop := wholeQuotientsRow.holds Tryd.pinned (OpenSpec.ofChange wholeQuotientsWrong)

/-- 'abaculuslaw2.WholeRing': WHATEVER THE INPUT: true; the input reads as it did. -/
def wholeRingSpec : ChangeSpec := { name := "wholeRing", fn := fun _ => fun
  | [d1, d2, d3, d4, d5] => { results := [.lit (.bool true)], args := [d1, d2, d3, d4, d5] }
  | _ => none }
def wholeRingRow : OpenClaim := { program := "ytcfpjgcellahnaadoor", sum := "bff438771f318cdcf68c763b581c8a70b7137276a30e70d84d9e88a7b96f8823", func := "abaculus/abaculuslaw2.WholeRing", spec := "wholeRing", inPlace := ["internal/abi.NoEscape", "internal/bytealg.MakeNoZero", "math/bits.Add64", "math/bits.Sub64"], named := ["math/bits.divideError", "math/bits.overflowError", "internal/strconv.uint64pow10", "math/bits.deBruijn32tab", "math/bits.deBruijn64tab"], apart := false, laid := [("math/bits.deBruijn32tab", laid_math_bits_deBruijn32tab), ("math/bits.deBruijn64tab", laid_math_bits_deBruijn64tab), ("internal/strconv.uint64pow10", laid_internal_strconv_uint64pow10)] }
def WholeRingSaid : Prop := wholeRingRow.holds Tryd.pinned (OpenSpec.ofChange wholeRingSpec)

/-- ITS FALSE NEIGHBOUR: 'it returns false'. Refute it at one input. -/
def wholeRingWrong : ChangeSpec := { name := "wholeRing", fn := fun _ => fun
  | [d1, d2, d3, d4, d5] => { results := [.lit (.bool false)], args := [d1, d2, d3, d4, d5] }
  | _ => none }
def WholeRingWrongFalsely : Prop := wholeRingRow.holds Tryd.pinned (OpenSpec.ofChange wholeRingWrong)

/-- 'abaculuslaw1.NatKnown': WHATEVER THE INPUT: true; the input reads as it did. -/
def natKnownSpec : ChangeSpec := { name := "natKnown", fn := fun _ => fun
  | [] => { results := [.lit (.bool true)], args := [] }
  | _ => none }
def natKnownRow : OpenClaim := { program := "ytcfpjgcellahnaadoor", sum := "bff438771f318cdcf68c763b581c8a70b7137276a30e70d84d9e88a7b96f8823", func := "abaculus/abaculuslaw1.NatKnown", spec := "natKnown", inPlace := ["math/bits.Add64", "internal/abi.NoEscape", "internal/bytealg.MakeNoZero", "math/bits.Sub64"], named := ["math/bits.divideError", "math/bits.overflowError", "internal/strconv.uint64pow10", "math/bits.deBruijn32tab", "math/bits.deBruijn64tab"], apart := false, laid := [("math/bits.deBruijn32tab", laid_math_bits_deBruijn32tab), ("math/bits.deBruijn64tab", laid_math_bits_deBruijn64tab), ("internal/strconv.uint64pow10", laid_internal_strconv_uint64pow10)] }
def NatKnownSaid : Prop := natKnownRow.holds Tryd.pinned (OpenSpec.ofChange natKnownSpec)

/-- ITS FALSE NEIGHBOUR: 'it returns false'. Refute it at one input. -/
def natKnownWrong : ChangeSpec := { name := "natKnown", fn := fun _ => fun
  | [] => { results := [.lit (.bool false)], args := [] }
  | _ => none }
def NatKnownWrongFalsely : Prop := natKnownRow.holds Tryd.pinned (OpenSpec.ofChange natKnownWrong)

/-- 'abaculuslaw2.WholeSums': WHATEVER THE INPUT: true; the input reads as it did. -/
def wholeSumsSpec : ChangeSpec := { name := "wholeSums", fn := fun _ => fun
  | [d1, d2, d3, d4] => { results := [.lit (.bool true)], args := [d1, d2, d3, d4] }
  | _ => none }
def wholeSumsRow : OpenClaim := { program := "ytcfpjgcellahnaadoor", sum := "bff438771f318cdcf68c763b581c8a70b7137276a30e70d84d9e88a7b96f8823", func := "abaculus/abaculuslaw2.WholeSums", spec := "wholeSums", inPlace := ["internal/abi.NoEscape", "internal/bytealg.MakeNoZero", "math/bits.Add64", "math/bits.Sub64"], named := ["math/bits.divideError", "math/bits.overflowError", "internal/strconv.uint64pow10", "math/bits.deBruijn32tab", "math/bits.deBruijn64tab"], apart := false, laid := [("math/bits.deBruijn32tab", laid_math_bits_deBruijn32tab), ("math/bits.deBruijn64tab", laid_math_bits_deBruijn64tab), ("internal/strconv.uint64pow10", laid_internal_strconv_uint64pow10)] }
def WholeSumsSaid : Prop := wholeSumsRow.holds Tryd.pinned (OpenSpec.ofChange wholeSumsSpec)

/-- ITS FALSE NEIGHBOUR: 'it returns false'. Refute it at one input. -/
def wholeSumsWrong : ChangeSpec := { name := "wholeSums", fn := fun _ => fun
  | [d1, d2, d3, d4] => { results := [.lit (.bool false)], args := [d1, d2, d3, d4] }
  | _ => none }
def WholeSumsWrongFalsely : Prop := wholeSumsRow.holds Tryd.pinned (OpenSpec.ofChange wholeSumsWrong)

/-- 'abaculuslaw2.WholePowers': WHATEVER THE INPUT: true; the input reads as it did. -/
def wholePowersSpec : ChangeSpec := { name := "wholePowers", fn := fun _ => fun
  | [d1, d2, d3, d4] => { results := [.lit (.bool true)], args := [d1, d2, d3, d4] }
  | _ => none }
def wholePowersRow : OpenClaim := { program := "ytcfpjgcellahnaadoor", sum := "bff438771f318cdcf68c763b581c8a70b7137276a30e70d84d9e88a7b96f8823", func := "abaculus/abaculuslaw2.WholePowers", spec := "wholePowers", inPlace := ["internal/abi.NoEscape", "internal/bytealg.MakeNoZero", "math/bits.Add64", "math/bits.Sub64"], named := ["math/bits.divideError", "math/bits.overflowError", "internal/strconv.uint64pow10", "math/bits.deBruijn32tab", "math/bits.deBruijn64tab"], apart := false, laid := [("math/bits.deBruijn32tab", laid_math_bits_deBruijn32tab), ("math/bits.deBruijn64tab", laid_math_bits_deBruijn64tab), ("internal/strconv.uint64pow10", laid_internal_strconv_uint64pow10)] }
def WholePowersSaid : Prop := wholePowersRow.holds Tryd.pinned (OpenSpec.ofChange wholePowersSpec)

/-- ITS FALSE NEIGHBOUR: 'it returns false'. Refute it at one input. -/
def wholePowersWrong : ChangeSpec := { name := "wholePowers", fn := fun _ => fun
  | [d1, d2, d3, d4] => { results := [.lit (.bool false)], args := [d1, d2, d3, d4] }
  | _ => none }
def WholePowersWrongFalsely : Prop := wholePowersRow.holds Tryd.pinned (OpenSpec.ofChange wholePowersWrong)

/-- 'abaculuslaw2.WholeBezout': WHATEVER THE INPUT: true; the input reads as it did. -/
def wholeBezoutSpec : ChangeSpec := { name := "wholeBezout", fn := fun _ => fun
  | [d1, d2, d3, d4] => { results := [.lit (.bool true)], args := [d1, d2, d3, d4] }
  | _ => none }
def wholeBezoutRow : OpenClaim := { program := "ytcfpjgcellahnaadoor", sum := "bff438771f318cdcf68c763b581c8a70b7137276a30e70d84d9e88a7b96f8823", func := "abaculus/abaculuslaw2.WholeBezout", spec := "wholeBezout", inPlace := ["internal/abi.NoEscape", "internal/bytealg.MakeNoZero", "math/bits.Add64", "math/bits.Sub64"], named := ["math/bits.divideError", "math/bits.overflowError", "internal/strconv.uint64pow10", "math/bits.deBruijn32tab", "math/bits.deBruijn64tab"], apart := false, laid := [("math/bits.deBruijn32tab", laid_math_bits_deBruijn32tab), ("math/bits.deBruijn64tab", laid_math_bits_deBruijn64tab), ("internal/strconv.uint64pow10", laid_internal_strconv_uint64pow10)] }
def WholeBezoutSaid : Prop := wholeBezoutRow.holds Tryd.pinned (OpenSpec.ofChange wholeBezoutSpec)

/-- ITS FALSE NEIGHBOUR: 'it returns false'. Refute it at one input. -/
def wholeBezoutWrong : ChangeSpec := { name := "wholeBezout", fn := fun _ => fun
  | [d1, d2, d3, d4] => { results := [.lit (.bool false)], args := [d1, d2, d3, d4] }
  | _ => none }
def WholeBezoutWrongFalsely : Prop := wholeBezoutRow.holds Tryd.pinned (OpenSpec.ofChange wholeBezoutWrong)

/-- 'abaculuslaw2.WholeKnown': WHATEVER THE INPUT: true; the input reads as it did. -/
def wholeKnownSpec : ChangeSpec := { name := "wholeKnown", fn := fun _ => fun
  | [] => { results := [.lit (.bool true)], args := [] }
  | _ => none }
def wholeKnownRow : OpenClaim := { program := "ytcfpjgcellahnaadoor", sum := "bff438771f318cdcf68c763b581c8a70b7137276a30e70d84d9e88a7b96f8823", func := "abaculus/abaculuslaw2.WholeKnown", spec := "wholeKnown", inPlace := ["internal/abi.NoEscape", "internal/bytealg.MakeNoZero", "math/bits.Add64", "math/bits.Sub64"], named := ["math/bits.divideError", "math/bits.overflowError", "internal/strconv.uint64pow10", "math/bits.deBruijn32tab", "math/bits.deBruijn64tab"], apart := false, laid := [("math/bits.deBruijn32tab", laid_math_bits_deBruijn32tab), ("math/bits.deBruijn64tab", laid_math_bits_deBruijn64tab), ("internal/strconv.uint64pow10", laid_internal_strconv_uint64pow10)] }
def WholeKnownSaid : Prop := wholeKnownRow.holds Tryd.pinned (OpenSpec.ofChange wholeKnownSpec)

/-- ITS FALSE NEIGHBOUR: 'it returns false'. Refute it at one input. -/
def wholeKnownWrong : ChangeSpec := { name := "wholeKnown", fn := fun _ => fun
  | [] => { results := [.lit (.bool false)], args := [] }
  | _ => none }
def WholeKnownWrongFalsely : Prop := wholeKnownRow.holds Tryd.pinned (OpenSpec.ofChange wholeKnownWrong)

/- THE SECOND FORM. 'bulk': how many values and letters a reading holds, each counted each time it is reached (what is shared counts as often as it is met; a slice's spare places count too). A statement '..UptoSaid' is the law's where the arguments, and the package variables that the reading takes, are together of bulk at most 1048576: NARROWER than '..Said'. Prove '..Said' where nothing that the law and all that it calls make is longer than what came in: it says more and counts as full. Else prove '..UptoSaid'. A law counts once. -/
mutual
def uptoBulk {H : Type} : DataW H → Nat
  | .lit (.string bytes) => bytes.length + 1
  | .lit _ => 1
  | .nil => 1
  | .ptr d => uptoBulk d + 1
  | .slice elems spare => uptoBulkAll elems + uptoBulkAll spare + 1
  | .agg parts => uptoBulkAll parts + 1
  | .iface _ d => uptoBulk d + 1
  | .map entries => uptoBulkEntries entries + 1
  | .held _ => 1
def uptoBulkAll {H : Type} : List (DataW H) → Nat
  | [] => 0
  | d :: r => uptoBulk d + uptoBulkAll r
def uptoBulkEntries {H : Type} : List (Lit × DataW H) → Nat
  | [] => 0
  | x :: r => uptoBulkEntry x + uptoBulkEntries r
def uptoBulkEntry {H : Type} : Lit × DataW H → Nat
  | (.string bytes, d) => bytes.length + uptoBulk d + 1
  | (_, d) => uptoBulk d + 1
 end
def uptoSmall : (H : Type) → List (DataW H) → Bool := fun _ ds => decide (uptoBulkAll ds ≤ 1048576)
def OpenSpec.upto (s : _root_.Go.ChangeSpec) : _root_.Go.OpenSpec := { _root_.Go.OpenSpec.ofChange s with cond := some uptoSmall }

/-- 'abaculuslaw1.NatSmalls', WHERE WHAT IT READS IS OF BULK AT MOST 1048576: true; the input reads as it did. -/
def natSmallsUptoRow : OpenClaim := { program := "ytcfpjgcellahnaadoor", sum := "bff438771f318cdcf68c763b581c8a70b7137276a30e70d84d9e88a7b96f8823", func := "abaculus/abaculuslaw1.NatSmalls", spec := "natSmalls", inPlace := ["math/bits.Add64", "internal/abi.NoEscape", "internal/bytealg.MakeNoZero", "math/bits.Sub64"], named := ["math/bits.divideError", "math/bits.overflowError", "internal/strconv.uint64pow10", "math/bits.deBruijn32tab", "math/bits.deBruijn64tab"], apart := false, laid := [("math/bits.deBruijn32tab", laid_math_bits_deBruijn32tab), ("math/bits.deBruijn64tab", laid_math_bits_deBruijn64tab), ("internal/strconv.uint64pow10", laid_internal_strconv_uint64pow10)], narrowed := true }
def NatSmallsUptoSaid : Prop := natSmallsUptoRow.holds Tryd.pinned (OpenSpec.upto natSmallsSpec)

/-- 'abaculuslaw1.NatQuotients', WHERE WHAT IT READS IS OF BULK AT MOST 1048576: true; the input reads as it did. -/
def natQuotientsUptoRow : OpenClaim := { program := "ytcfpjgcellahnaadoor", sum := "bff438771f318cdcf68c763b581c8a70b7137276a30e70d84d9e88a7b96f8823", func := "abaculus/abaculuslaw1.NatQuotients", spec := "natQuotients", inPlace := ["internal/abi.NoEscape", "internal/bytealg.MakeNoZero", "math/bits.Add64", "math/bits.Sub64"], named := ["math/bits.divideError", "math/bits.overflowError", "internal/strconv.uint64pow10", "math/bits.deBruijn32tab", "math/bits.deBruijn64tab"], apart := false, laid := [("math/bits.deBruijn32tab", laid_math_bits_deBruijn32tab), ("math/bits.deBruijn64tab", laid_math_bits_deBruijn64tab), ("internal/strconv.uint64pow10", laid_internal_strconv_uint64pow10)], narrowed := true }
def NatQuotientsUptoSaid : Prop := natQuotientsUptoRow.holds Tryd.pinned (OpenSpec.upto natQuotientsSpec)

/-- 'abaculuslaw1.NatTexts', WHERE WHAT IT READS IS OF BULK AT MOST 1048576: true; the input reads as it did. -/
def natTextsUptoRow : OpenClaim := { program := "ytcfpjgcellahnaadoor", sum := "bff438771f318cdcf68c763b581c8a70b7137276a30e70d84d9e88a7b96f8823", func := "abaculus/abaculuslaw1.NatTexts", spec := "natTexts", inPlace := ["internal/abi.NoEscape", "internal/bytealg.MakeNoZero", "math/bits.Add64", "math/bits.Sub64"], named := ["math/bits.divideError", "math/bits.overflowError", "internal/strconv.uint64pow10", "math/bits.deBruijn32tab", "math/bits.deBruijn64tab"], apart := false, laid := [("math/bits.deBruijn32tab", laid_math_bits_deBruijn32tab), ("math/bits.deBruijn64tab", laid_math_bits_deBruijn64tab), ("internal/strconv.uint64pow10", laid_internal_strconv_uint64pow10)], narrowed := true }
def NatTextsUptoSaid : Prop := natTextsUptoRow.holds Tryd.pinned (OpenSpec.upto natTextsSpec)

/-- 'abaculuslaw1.NatBack', WHERE WHAT IT READS IS OF BULK AT MOST 1048576: true; the input reads as it did. -/
def natBackUptoRow : OpenClaim := { program := "ytcfpjgcellahnaadoor", sum := "bff438771f318cdcf68c763b581c8a70b7137276a30e70d84d9e88a7b96f8823", func := "abaculus/abaculuslaw1.NatBack", spec := "natBack", inPlace := ["internal/abi.NoEscape", "internal/bytealg.MakeNoZero", "math/bits.Add64", "math/bits.Sub64"], named := ["math/bits.divideError", "math/bits.overflowError", "internal/strconv.uint64pow10", "math/bits.deBruijn32tab", "math/bits.deBruijn64tab"], apart := false, laid := [("math/bits.deBruijn32tab", laid_math_bits_deBruijn32tab), ("math/bits.deBruijn64tab", laid_math_bits_deBruijn64tab), ("internal/strconv.uint64pow10", laid_internal_strconv_uint64pow10)], narrowed := true }
def NatBackUptoSaid : Prop := natBackUptoRow.holds Tryd.pinned (OpenSpec.upto natBackSpec)

/-- 'abaculuslaw1.NatRoots', WHERE WHAT IT READS IS OF BULK AT MOST 1048576: true; the input reads as it did. -/
def natRootsUptoRow : OpenClaim := { program := "ytcfpjgcellahnaadoor", sum := "bff438771f318cdcf68c763b581c8a70b7137276a30e70d84d9e88a7b96f8823", func := "abaculus/abaculuslaw1.NatRoots", spec := "natRoots", inPlace := ["internal/abi.NoEscape", "internal/bytealg.MakeNoZero", "math/bits.Add64", "math/bits.Sub64"], named := ["math/bits.divideError", "math/bits.overflowError", "internal/strconv.uint64pow10", "math/bits.deBruijn32tab", "math/bits.deBruijn64tab"], apart := false, laid := [("math/bits.deBruijn32tab", laid_math_bits_deBruijn32tab), ("math/bits.deBruijn64tab", laid_math_bits_deBruijn64tab), ("internal/strconv.uint64pow10", laid_internal_strconv_uint64pow10)], narrowed := true }
def NatRootsUptoSaid : Prop := natRootsUptoRow.holds Tryd.pinned (OpenSpec.upto natRootsSpec)

/-- 'abaculuslaw1.NatRing', WHERE WHAT IT READS IS OF BULK AT MOST 1048576: true; the input reads as it did. -/
def natRingUptoRow : OpenClaim := { program := "ytcfpjgcellahnaadoor", sum := "bff438771f318cdcf68c763b581c8a70b7137276a30e70d84d9e88a7b96f8823", func := "abaculus/abaculuslaw1.NatRing", spec := "natRing", inPlace := ["internal/abi.NoEscape", "internal/bytealg.MakeNoZero", "math/bits.Add64", "math/bits.Sub64"], named := ["math/bits.divideError", "math/bits.overflowError", "internal/strconv.uint64pow10", "math/bits.deBruijn32tab", "math/bits.deBruijn64tab"], apart := false, laid := [("math/bits.deBruijn32tab", laid_math_bits_deBruijn32tab), ("math/bits.deBruijn64tab", laid_math_bits_deBruijn64tab), ("internal/strconv.uint64pow10", laid_internal_strconv_uint64pow10)], narrowed := true }
def NatRingUptoSaid : Prop := natRingUptoRow.holds Tryd.pinned (OpenSpec.upto natRingSpec)

/-- 'abaculuslaw1.NatSums', WHERE WHAT IT READS IS OF BULK AT MOST 1048576: true; the input reads as it did. -/
def natSumsUptoRow : OpenClaim := { program := "ytcfpjgcellahnaadoor", sum := "bff438771f318cdcf68c763b581c8a70b7137276a30e70d84d9e88a7b96f8823", func := "abaculus/abaculuslaw1.NatSums", spec := "natSums", inPlace := ["internal/abi.NoEscape", "internal/bytealg.MakeNoZero", "math/bits.Sub64", "math/bits.Add64"], named := ["math/bits.divideError", "math/bits.overflowError", "internal/strconv.uint64pow10", "math/bits.deBruijn32tab", "math/bits.deBruijn64tab"], apart := false, laid := [("math/bits.deBruijn32tab", laid_math_bits_deBruijn32tab), ("math/bits.deBruijn64tab", laid_math_bits_deBruijn64tab), ("internal/strconv.uint64pow10", laid_internal_strconv_uint64pow10)], narrowed := true }
def NatSumsUptoSaid : Prop := natSumsUptoRow.holds Tryd.pinned (OpenSpec.upto natSumsSpec)

/-- 'abaculuslaw1.NatShifts', WHERE WHAT IT READS IS OF BULK AT MOST 1048576: true; the input reads as it did. -/
def natShiftsUptoRow : OpenClaim := { program := "ytcfpjgcellahnaadoor", sum := "bff438771f318cdcf68c763b581c8a70b7137276a30e70d84d9e88a7b96f8823", func := "abaculus/abaculuslaw1.NatShifts", spec := "natShifts", inPlace := ["internal/abi.NoEscape", "internal/bytealg.MakeNoZero", "math/bits.Add64", "math/bits.Sub64"], named := ["math/bits.divideError", "math/bits.overflowError", "internal/strconv.uint64pow10", "math/bits.deBruijn32tab", "math/bits.deBruijn64tab"], apart := false, laid := [("math/bits.deBruijn32tab", laid_math_bits_deBruijn32tab), ("math/bits.deBruijn64tab", laid_math_bits_deBruijn64tab), ("internal/strconv.uint64pow10", laid_internal_strconv_uint64pow10)], narrowed := true }
def NatShiftsUptoSaid : Prop := natShiftsUptoRow.holds Tryd.pinned (OpenSpec.upto natShiftsSpec)

/-- 'abaculuslaw2.WholeQuotients', WHERE WHAT IT READS IS OF BULK AT MOST 1048576: true; the input reads as it did. -/
def wholeQuotientsUptoRow : OpenClaim := { program := "ytcfpjgcellahnaadoor", sum := "bff438771f318cdcf68c763b581c8a70b7137276a30e70d84d9e88a7b96f8823", func := "abaculus/abaculuslaw2.WholeQuotients", spec := "wholeQuotients", inPlace := ["internal/abi.NoEscape", "internal/bytealg.MakeNoZero", "math/bits.Add64", "math/bits.Sub64"], named := ["math/bits.divideError", "math/bits.overflowError", "internal/strconv.uint64pow10", "math/bits.deBruijn32tab", "math/bits.deBruijn64tab"], apart := false, laid := [("math/bits.deBruijn32tab", laid_math_bits_deBruijn32tab), ("math/bits.deBruijn64tab", laid_math_bits_deBruijn64tab), ("internal/strconv.uint64pow10", laid_internal_strconv_uint64pow10)], narrowed := true }
def WholeQuotientsUptoSaid : Prop := wholeQuotientsUptoRow.holds Tryd.pinned (OpenSpec.upto wholeQuotientsSpec)

/-- 'abaculuslaw2.WholeRing', WHERE WHAT IT READS IS OF BULK AT MOST 1048576: true; the input reads as it did. -/
def wholeRingUptoRow : OpenClaim := { program := "ytcfpjgcellahnaadoor", sum := "bff438771f318cdcf68c763b581c8a70b7137276a30e70d84d9e88a7b96f8823", func := "abaculus/abaculuslaw2.WholeRing", spec := "wholeRing", inPlace := ["internal/abi.NoEscape", "internal/bytealg.MakeNoZero", "math/bits.Add64", "math/bits.Sub64"], named := ["math/bits.divideError", "math/bits.overflowError", "internal/strconv.uint64pow10", "math/bits.deBruijn32tab", "math/bits.deBruijn64tab"], apart := false, laid := [("math/bits.deBruijn32tab", laid_math_bits_deBruijn32tab), ("math/bits.deBruijn64tab", laid_math_bits_deBruijn64tab), ("internal/strconv.uint64pow10", laid_internal_strconv_uint64pow10)], narrowed := true }
def WholeRingUptoSaid : Prop := wholeRingUptoRow.holds Tryd.pinned (OpenSpec.upto wholeRingSpec)

/-- 'abaculuslaw1.NatKnown', WHERE WHAT IT READS IS OF BULK AT MOST 1048576: true; the input reads as it did. -/
def natKnownUptoRow : OpenClaim := { program := "ytcfpjgcellahnaadoor", sum := "bff438771f318cdcf68c763b581c8a70b7137276a30e70d84d9e88a7b96f8823", func := "abaculus/abaculuslaw1.NatKnown", spec := "natKnown", inPlace := ["math/bits.Add64", "internal/abi.NoEscape", "internal/bytealg.MakeNoZero", "math/bits.Sub64"], named := ["math/bits.divideError", "math/bits.overflowError", "internal/strconv.uint64pow10", "math/bits.deBruijn32tab", "math/bits.deBruijn64tab"], apart := false, laid := [("math/bits.deBruijn32tab", laid_math_bits_deBruijn32tab), ("math/bits.deBruijn64tab", laid_math_bits_deBruijn64tab), ("internal/strconv.uint64pow10", laid_internal_strconv_uint64pow10)], narrowed := true }
def NatKnownUptoSaid : Prop := natKnownUptoRow.holds Tryd.pinned (OpenSpec.upto natKnownSpec)

/-- 'abaculuslaw2.WholeSums', WHERE WHAT IT READS IS OF BULK AT MOST 1048576: true; the input reads as it did. -/
def wholeSumsUptoRow : OpenClaim := { program := "ytcfpjgcellahnaadoor", sum := "bff438771f318cdcf68c763b581c8a70b7137276a30e70d84d9e88a7b96f8823", func := "abaculus/abaculuslaw2.WholeSums", spec := "wholeSums", inPlace := ["internal/abi.NoEscape", "internal/bytealg.MakeNoZero", "math/bits.Add64", "math/bits.Sub64"], named := ["math/bits.divideError", "math/bits.overflowError", "internal/strconv.uint64pow10", "math/bits.deBruijn32tab", "math/bits.deBruijn64tab"], apart := false, laid := [("math/bits.deBruijn32tab", laid_math_bits_deBruijn32tab), ("math/bits.deBruijn64tab", laid_math_bits_deBruijn64tab), ("internal/strconv.uint64pow10", laid_internal_strconv_uint64pow10)], narrowed := true }
def WholeSumsUptoSaid : Prop := wholeSumsUptoRow.holds Tryd.pinned (OpenSpec.upto wholeSumsSpec)

/-- 'abaculuslaw2.WholePowers', WHERE WHAT IT READS IS OF BULK AT MOST 1048576: true; the input reads as it did. -/
def wholePowersUptoRow : OpenClaim := { program := "ytcfpjgcellahnaadoor", sum := "bff438771f318cdcf68c763b581c8a70b7137276a30e70d84d9e88a7b96f8823", func := "abaculus/abaculuslaw2.WholePowers", spec := "wholePowers", inPlace := ["internal/abi.NoEscape", "internal/bytealg.MakeNoZero", "math/bits.Add64", "math/bits.Sub64"], named := ["math/bits.divideError", "math/bits.overflowError", "internal/strconv.uint64pow10", "math/bits.deBruijn32tab", "math/bits.deBruijn64tab"], apart := false, laid := [("math/bits.deBruijn32tab", laid_math_bits_deBruijn32tab), ("math/bits.deBruijn64tab", laid_math_bits_deBruijn64tab), ("internal/strconv.uint64pow10", laid_internal_strconv_uint64pow10)], narrowed := true }
def WholePowersUptoSaid : Prop := wholePowersUptoRow.holds Tryd.pinned (OpenSpec.upto wholePowersSpec)

/-- 'abaculuslaw2.WholeBezout', WHERE WHAT IT READS IS OF BULK AT MOST 1048576: true; the input reads as it did. -/
def wholeBezoutUptoRow : OpenClaim := { program := "ytcfpjgcellahnaadoor", sum := "bff438771f318cdcf68c763b581c8a70b7137276a30e70d84d9e88a7b96f8823", func := "abaculus/abaculuslaw2.WholeBezout", spec := "wholeBezout", inPlace := ["internal/abi.NoEscape", "internal/bytealg.MakeNoZero", "math/bits.Add64", "math/bits.Sub64"], named := ["math/bits.divideError", "math/bits.overflowError", "internal/strconv.uint64pow10", "math/bits.deBruijn32tab", "math/bits.deBruijn64tab"], apart := false, laid := [("math/bits.deBruijn32tab", laid_math_bits_deBruijn32tab), ("math/bits.deBruijn64tab", laid_math_bits_deBruijn64tab), ("internal/strconv.uint64pow10", laid_internal_strconv_uint64pow10)], narrowed := true }
def WholeBezoutUptoSaid : Prop := wholeBezoutUptoRow.holds Tryd.pinned (OpenSpec.upto wholeBezoutSpec)

/-- 'abaculuslaw2.WholeKnown', WHERE WHAT IT READS IS OF BULK AT MOST 1048576: true; the input reads as it did. -/
def wholeKnownUptoRow : OpenClaim := { program := "ytcfpjgcellahnaadoor", sum := "bff438771f318cdcf68c763b581c8a70b7137276a30e70d84d9e88a7b96f8823", func := "abaculus/abaculuslaw2.WholeKnown", spec := "wholeKnown", inPlace := ["internal/abi.NoEscape", "internal/bytealg.MakeNoZero", "math/bits.Add64", "math/bits.Sub64"], named := ["math/bits.divideError", "math/bits.overflowError", "internal/strconv.uint64pow10", "math/bits.deBruijn32tab", "math/bits.deBruijn64tab"], apart := false, laid := [("math/bits.deBruijn32tab", laid_math_bits_deBruijn32tab), ("math/bits.deBruijn64tab", laid_math_bits_deBruijn64tab), ("internal/strconv.uint64pow10", laid_internal_strconv_uint64pow10)], narrowed := true }
def WholeKnownUptoSaid : Prop := wholeKnownUptoRow.holds Tryd.pinned (OpenSpec.upto wholeKnownSpec)

end Rows
end Go.Proofs.YtcfpjgcellahnaaDoor
