/-
  NARROWER THAN 'FOR EVERY INPUT', by the rows' own cells (each row's printed sentence says how): FloatVolumes: laid · FloatCentres: laid · FloatWaterplanes: laid · ParticularsHeights: laid · ParticularsRaised: laid · ParticularsMasses: laid · ParticularsOf: laid · ParticularsEnlarged: laid · ParticularsMoved: laid.
  DERIVED. THE GIVEN ROWS OF THIS SEAT. 9 by the template 'for every input the law returns true; each argument reads behind the call as it read before'; 0 by the template 'total and deterministic' (their statements: YtafimpgfbgigeaaGreatDoorTotals.lean).
  GIVEN WITH THE SEED: the statements are not yours to turn. If you find one false, say at which input.
  Laid BY PROGRAM, IN A SANDBOX (cutbox-rows.mjs): the forced cells as the released guide's own fill.sh prints them over the translation ef008cfaa46fd53d… (all of the seat's roots in one cut). By AI agents, Wed Nov 11 2026. No macro, syntax, notation, axiom, sorry.
-/
import Derived.Test.YtafimpgfbgigeaaGreatDoorChecked
import GoSem.Claim
import GoSem.ClaimJoined
import GoSem.ClaimMapViews
import Derived.JoinedTies
import Derived.KernelRfl
namespace Go.Proofs.YtafimpgfbgigeaaGreatDoor
/- THE CELL 'sum', in the pinned program and in every row, IS THE sha256 OF THE DUMP (.gsa) THAT YtafimpgfbgigeaaGreatDoorProg.lean LOADS. Nothing in Lean hashes anything: it is a label: what it is worth is what the hold of that sum in a sandbox is worth. -/
noncomputable def Tryz.pinned : Pinned := { name := "ytafimpgfbgigeaagreatdoor", sum := "ef008cfaa46fd53dd742c5731bb68dcf61e3a98b4a7bb0bd3ce932c854c05a60", checked := Tryz.checked }
namespace Rows
def none {H : Type} : Left H := { results := [], args := [] }

/- WHAT THE LISTED PACKAGE-LEVEL VARIABLES READ AS WHEN THE CALL BEGINS. Each datum BY PROGRAM (the guide's laid-datum.mjs) off the statement by which the dump's own 'gosem.cut.vars' lays the variable. In a bare row this is a premise. The card (YtafimpgfbgigeaaGreatDoorCards.lean) ties it to the program's text. -/
def laid_math_bits_deBruijn32tab {H : Type} : DataW H := .agg [.lit (.int .u8 0), .lit (.int .u8 1), .lit (.int .u8 28), .lit (.int .u8 2), .lit (.int .u8 29), .lit (.int .u8 14), .lit (.int .u8 24), .lit (.int .u8 3), .lit (.int .u8 30), .lit (.int .u8 22), .lit (.int .u8 20), .lit (.int .u8 15), .lit (.int .u8 25), .lit (.int .u8 17), .lit (.int .u8 4), .lit (.int .u8 8), .lit (.int .u8 31), .lit (.int .u8 27), .lit (.int .u8 13), .lit (.int .u8 23), .lit (.int .u8 21), .lit (.int .u8 19), .lit (.int .u8 16), .lit (.int .u8 7), .lit (.int .u8 26), .lit (.int .u8 12), .lit (.int .u8 18), .lit (.int .u8 6), .lit (.int .u8 11), .lit (.int .u8 5), .lit (.int .u8 10), .lit (.int .u8 9)]
def laid_math_bits_deBruijn64tab {H : Type} : DataW H := .agg [.lit (.int .u8 0), .lit (.int .u8 1), .lit (.int .u8 56), .lit (.int .u8 2), .lit (.int .u8 57), .lit (.int .u8 49), .lit (.int .u8 28), .lit (.int .u8 3), .lit (.int .u8 61), .lit (.int .u8 58), .lit (.int .u8 42), .lit (.int .u8 50), .lit (.int .u8 38), .lit (.int .u8 29), .lit (.int .u8 17), .lit (.int .u8 4), .lit (.int .u8 62), .lit (.int .u8 47), .lit (.int .u8 59), .lit (.int .u8 36), .lit (.int .u8 45), .lit (.int .u8 43), .lit (.int .u8 51), .lit (.int .u8 22), .lit (.int .u8 53), .lit (.int .u8 39), .lit (.int .u8 33), .lit (.int .u8 30), .lit (.int .u8 24), .lit (.int .u8 18), .lit (.int .u8 12), .lit (.int .u8 5), .lit (.int .u8 63), .lit (.int .u8 55), .lit (.int .u8 48), .lit (.int .u8 27), .lit (.int .u8 60), .lit (.int .u8 41), .lit (.int .u8 37), .lit (.int .u8 16), .lit (.int .u8 46), .lit (.int .u8 35), .lit (.int .u8 44), .lit (.int .u8 21), .lit (.int .u8 52), .lit (.int .u8 32), .lit (.int .u8 23), .lit (.int .u8 11), .lit (.int .u8 54), .lit (.int .u8 26), .lit (.int .u8 40), .lit (.int .u8 15), .lit (.int .u8 34), .lit (.int .u8 20), .lit (.int .u8 31), .lit (.int .u8 10), .lit (.int .u8 25), .lit (.int .u8 14), .lit (.int .u8 19), .lit (.int .u8 9), .lit (.int .u8 13), .lit (.int .u8 8), .lit (.int .u8 7), .lit (.int .u8 6)]
def laid_internal_strconv_uint64pow10 {H : Type} : DataW H := .agg [.lit (.int .u64 1), .lit (.int .u64 10), .lit (.int .u64 100), .lit (.int .u64 1000), .lit (.int .u64 10000), .lit (.int .u64 100000), .lit (.int .u64 1000000), .lit (.int .u64 10000000), .lit (.int .u64 100000000), .lit (.int .u64 1000000000), .lit (.int .u64 10000000000), .lit (.int .u64 100000000000), .lit (.int .u64 1000000000000), .lit (.int .u64 10000000000000), .lit (.int .u64 100000000000000), .lit (.int .u64 1000000000000000), .lit (.int .u64 10000000000000000), .lit (.int .u64 100000000000000000), .lit (.int .u64 1000000000000000000), .lit (.int .u64 10000000000000000000)]
def laid_strconv_ErrRange {H : Type} : DataW H := .iface "*errors.errorString" (.ptr (.agg [.lit (.string [118, 97, 108, 117, 101, 32, 111, 117, 116, 32, 111, 102, 32, 114, 97, 110, 103, 101])]))
def laid_strconv_ErrSyntax {H : Type} : DataW H := .iface "*errors.errorString" (.ptr (.agg [.lit (.string [105, 110, 118, 97, 108, 105, 100, 32, 115, 121, 110, 116, 97, 120])]))

/-- 'garboardlaw17.FloatVolumes': WHATEVER THE INPUT: true; the input reads as it did. -/
def floatVolumesSpec : ChangeSpec := { name := "floatVolumes", fn := fun _ => fun
  | [d1, d2, d3] => { results := [.lit (.bool true)], args := [d1, d2, d3] }
  | _ => none }
def floatVolumesRow : OpenClaim := { program := "ytafimpgfbgigeaagreatdoor", sum := "ef008cfaa46fd53dd742c5731bb68dcf61e3a98b4a7bb0bd3ce932c854c05a60", func := "garboard/garboardlaw17.FloatVolumes", spec := "floatVolumes", inPlace := ["internal/bytealg.IndexByteString", "internal/bytealg.IndexString", "internal/abi.NoEscape", "internal/bytealg.MakeNoZero"], unfollowed := true, recurses := true, named := ["internal/bytealg.MaxLen", "strconv.ErrSyntax", "strconv.ErrRange", "internal/strconv.uint64pow10", "math/bits.deBruijn32tab", "math/bits.deBruijn64tab"], plainKeys := false, apart := false, laid := [("math/bits.deBruijn32tab", laid_math_bits_deBruijn32tab), ("math/bits.deBruijn64tab", laid_math_bits_deBruijn64tab), ("internal/strconv.uint64pow10", laid_internal_strconv_uint64pow10), ("strconv.ErrRange", laid_strconv_ErrRange), ("strconv.ErrSyntax", laid_strconv_ErrSyntax)] }
def FloatVolumesSaid : Prop := floatVolumesRow.holds Tryz.pinned (OpenSpec.ofChange floatVolumesSpec)

/-- ITS FALSE NEIGHBOUR: 'it returns false'. Refute it at one input. -/
def floatVolumesWrong : ChangeSpec := { name := "floatVolumes", fn := fun _ => fun
  | [d1, d2, d3] => { results := [.lit (.bool false)], args := [d1, d2, d3] }
  | _ => none }
def FloatVolumesWrongFalsely : Prop := floatVolumesRow.holds Tryz.pinned (OpenSpec.ofChange floatVolumesWrong)

/-- 'garboardlaw17.FloatCentres': WHATEVER THE INPUT: true; the input reads as it did. -/
def floatCentresSpec : ChangeSpec := { name := "floatCentres", fn := fun _ => fun
  | [d1, d2, d3] => { results := [.lit (.bool true)], args := [d1, d2, d3] }
  | _ => none }
def floatCentresRow : OpenClaim := { program := "ytafimpgfbgigeaagreatdoor", sum := "ef008cfaa46fd53dd742c5731bb68dcf61e3a98b4a7bb0bd3ce932c854c05a60", func := "garboard/garboardlaw17.FloatCentres", spec := "floatCentres", inPlace := ["internal/bytealg.IndexByteString", "internal/bytealg.IndexString", "internal/abi.NoEscape", "internal/bytealg.MakeNoZero"], unfollowed := true, recurses := true, named := ["internal/bytealg.MaxLen", "strconv.ErrSyntax", "strconv.ErrRange", "internal/strconv.uint64pow10", "math/bits.deBruijn32tab", "math/bits.deBruijn64tab"], plainKeys := false, apart := false, laid := [("math/bits.deBruijn32tab", laid_math_bits_deBruijn32tab), ("math/bits.deBruijn64tab", laid_math_bits_deBruijn64tab), ("internal/strconv.uint64pow10", laid_internal_strconv_uint64pow10), ("strconv.ErrRange", laid_strconv_ErrRange), ("strconv.ErrSyntax", laid_strconv_ErrSyntax)] }
def FloatCentresSaid : Prop := floatCentresRow.holds Tryz.pinned (OpenSpec.ofChange floatCentresSpec)

/-- ITS FALSE NEIGHBOUR: 'it returns false'. Refute it at one input. -/
def floatCentresWrong : ChangeSpec := { name := "floatCentres", fn := fun _ => fun
  | [d1, d2, d3] => { results := [.lit (.bool false)], args := [d1, d2, d3] }
  | _ => none }
def FloatCentresWrongFalsely : Prop := floatCentresRow.holds Tryz.pinned (OpenSpec.ofChange floatCentresWrong)

/-- 'garboardlaw17.FloatWaterplanes': WHATEVER THE INPUT: true; the input reads as it did. -/
def floatWaterplanesSpec : ChangeSpec := { name := "floatWaterplanes", fn := fun _ => fun
  | [d1, d2, d3] => { results := [.lit (.bool true)], args := [d1, d2, d3] }
  | _ => none }
def floatWaterplanesRow : OpenClaim := { program := "ytafimpgfbgigeaagreatdoor", sum := "ef008cfaa46fd53dd742c5731bb68dcf61e3a98b4a7bb0bd3ce932c854c05a60", func := "garboard/garboardlaw17.FloatWaterplanes", spec := "floatWaterplanes", inPlace := ["internal/bytealg.IndexByteString", "internal/bytealg.IndexString", "internal/abi.NoEscape", "internal/bytealg.MakeNoZero"], unfollowed := true, recurses := true, named := ["internal/bytealg.MaxLen", "strconv.ErrSyntax", "strconv.ErrRange", "internal/strconv.uint64pow10", "math/bits.deBruijn32tab", "math/bits.deBruijn64tab"], plainKeys := false, apart := false, laid := [("math/bits.deBruijn32tab", laid_math_bits_deBruijn32tab), ("math/bits.deBruijn64tab", laid_math_bits_deBruijn64tab), ("internal/strconv.uint64pow10", laid_internal_strconv_uint64pow10), ("strconv.ErrRange", laid_strconv_ErrRange), ("strconv.ErrSyntax", laid_strconv_ErrSyntax)] }
def FloatWaterplanesSaid : Prop := floatWaterplanesRow.holds Tryz.pinned (OpenSpec.ofChange floatWaterplanesSpec)

/-- ITS FALSE NEIGHBOUR: 'it returns false'. Refute it at one input. -/
def floatWaterplanesWrong : ChangeSpec := { name := "floatWaterplanes", fn := fun _ => fun
  | [d1, d2, d3] => { results := [.lit (.bool false)], args := [d1, d2, d3] }
  | _ => none }
def FloatWaterplanesWrongFalsely : Prop := floatWaterplanesRow.holds Tryz.pinned (OpenSpec.ofChange floatWaterplanesWrong)

/-- 'garboardlaw18.ParticularsHeights': WHATEVER THE INPUT: true; the input reads as it did. -/
def particularsHeightsSpec : ChangeSpec := { name := "particularsHeights", fn := fun _ => fun
  | [d1, d2, d3] => { results := [.lit (.bool true)], args := [d1, d2, d3] }
  | _ => none }
def particularsHeightsRow : OpenClaim := { program := "ytafimpgfbgigeaagreatdoor", sum := "ef008cfaa46fd53dd742c5731bb68dcf61e3a98b4a7bb0bd3ce932c854c05a60", func := "garboard/garboardlaw18.ParticularsHeights", spec := "particularsHeights", inPlace := ["internal/bytealg.IndexByteString", "internal/bytealg.IndexString", "internal/abi.NoEscape", "internal/bytealg.MakeNoZero"], unfollowed := true, recurses := true, named := ["internal/bytealg.MaxLen", "strconv.ErrSyntax", "strconv.ErrRange", "internal/strconv.uint64pow10", "math/bits.deBruijn32tab", "math/bits.deBruijn64tab"], plainKeys := false, apart := false, laid := [("math/bits.deBruijn32tab", laid_math_bits_deBruijn32tab), ("math/bits.deBruijn64tab", laid_math_bits_deBruijn64tab), ("internal/strconv.uint64pow10", laid_internal_strconv_uint64pow10), ("strconv.ErrRange", laid_strconv_ErrRange), ("strconv.ErrSyntax", laid_strconv_ErrSyntax)] }
def ParticularsHeightsSaid : Prop := particularsHeightsRow.holds Tryz.pinned (OpenSpec.ofChange particularsHeightsSpec)

/-- ITS FALSE NEIGHBOUR: 'it returns false'. Refute it at one input. -/
def particularsHeightsWrong : ChangeSpec := { name := "particularsHeights", fn := fun _ => fun
  | [d1, d2, d3] => { results := [.lit (.bool false)], args := [d1, d2, d3] }
  | _ => none }
def ParticularsHeightsWrongFalsely : Prop := particularsHeightsRow.holds Tryz.pinned (OpenSpec.ofChange particularsHeightsWrong)

/-- 'garboardlaw18.ParticularsRaised': WHATEVER THE INPUT: true; the input reads as it did. -/
def particularsRaisedSpec : ChangeSpec := { name := "particularsRaised", fn := fun _ => fun
  | [d1, d2, d3] => { results := [.lit (.bool true)], args := [d1, d2, d3] }
  | _ => none }
def particularsRaisedRow : OpenClaim := { program := "ytafimpgfbgigeaagreatdoor", sum := "ef008cfaa46fd53dd742c5731bb68dcf61e3a98b4a7bb0bd3ce932c854c05a60", func := "garboard/garboardlaw18.ParticularsRaised", spec := "particularsRaised", inPlace := ["internal/bytealg.IndexByteString", "internal/bytealg.IndexString", "internal/abi.NoEscape", "internal/bytealg.MakeNoZero"], unfollowed := true, recurses := true, named := ["internal/bytealg.MaxLen", "strconv.ErrSyntax", "strconv.ErrRange", "internal/strconv.uint64pow10", "math/bits.deBruijn32tab", "math/bits.deBruijn64tab"], plainKeys := false, apart := false, laid := [("math/bits.deBruijn32tab", laid_math_bits_deBruijn32tab), ("math/bits.deBruijn64tab", laid_math_bits_deBruijn64tab), ("internal/strconv.uint64pow10", laid_internal_strconv_uint64pow10), ("strconv.ErrRange", laid_strconv_ErrRange), ("strconv.ErrSyntax", laid_strconv_ErrSyntax)] }
def ParticularsRaisedSaid : Prop := particularsRaisedRow.holds Tryz.pinned (OpenSpec.ofChange particularsRaisedSpec)

/-- ITS FALSE NEIGHBOUR: 'it returns false'. Refute it at one input. -/
def particularsRaisedWrong : ChangeSpec := { name := "particularsRaised", fn := fun _ => fun
  | [d1, d2, d3] => { results := [.lit (.bool false)], args := [d1, d2, d3] }
  | _ => none }
def ParticularsRaisedWrongFalsely : Prop := particularsRaisedRow.holds Tryz.pinned (OpenSpec.ofChange particularsRaisedWrong)

/-- 'garboardlaw18.ParticularsMasses': WHATEVER THE INPUT: true; the input reads as it did. -/
def particularsMassesSpec : ChangeSpec := { name := "particularsMasses", fn := fun _ => fun
  | [d1, d2, d3] => { results := [.lit (.bool true)], args := [d1, d2, d3] }
  | _ => none }
def particularsMassesRow : OpenClaim := { program := "ytafimpgfbgigeaagreatdoor", sum := "ef008cfaa46fd53dd742c5731bb68dcf61e3a98b4a7bb0bd3ce932c854c05a60", func := "garboard/garboardlaw18.ParticularsMasses", spec := "particularsMasses", inPlace := ["internal/bytealg.IndexByteString", "internal/bytealg.IndexString", "internal/abi.NoEscape", "internal/bytealg.MakeNoZero"], unfollowed := true, recurses := true, named := ["internal/bytealg.MaxLen", "strconv.ErrSyntax", "strconv.ErrRange", "internal/strconv.uint64pow10", "math/bits.deBruijn32tab", "math/bits.deBruijn64tab"], plainKeys := false, apart := false, laid := [("math/bits.deBruijn32tab", laid_math_bits_deBruijn32tab), ("math/bits.deBruijn64tab", laid_math_bits_deBruijn64tab), ("internal/strconv.uint64pow10", laid_internal_strconv_uint64pow10), ("strconv.ErrRange", laid_strconv_ErrRange), ("strconv.ErrSyntax", laid_strconv_ErrSyntax)] }
def ParticularsMassesSaid : Prop := particularsMassesRow.holds Tryz.pinned (OpenSpec.ofChange particularsMassesSpec)

/-- ITS FALSE NEIGHBOUR: 'it returns false'. Refute it at one input. -/
def particularsMassesWrong : ChangeSpec := { name := "particularsMasses", fn := fun _ => fun
  | [d1, d2, d3] => { results := [.lit (.bool false)], args := [d1, d2, d3] }
  | _ => none }
def ParticularsMassesWrongFalsely : Prop := particularsMassesRow.holds Tryz.pinned (OpenSpec.ofChange particularsMassesWrong)

/-- 'garboardlaw18.ParticularsOf': WHATEVER THE INPUT: true; the input reads as it did. -/
def particularsOfSpec : ChangeSpec := { name := "particularsOf", fn := fun _ => fun
  | [d1, d2, d3] => { results := [.lit (.bool true)], args := [d1, d2, d3] }
  | _ => none }
def particularsOfRow : OpenClaim := { program := "ytafimpgfbgigeaagreatdoor", sum := "ef008cfaa46fd53dd742c5731bb68dcf61e3a98b4a7bb0bd3ce932c854c05a60", func := "garboard/garboardlaw18.ParticularsOf", spec := "particularsOf", inPlace := ["internal/bytealg.IndexByteString", "internal/bytealg.IndexString", "internal/abi.NoEscape", "internal/bytealg.MakeNoZero"], unfollowed := true, recurses := true, named := ["internal/bytealg.MaxLen", "strconv.ErrSyntax", "strconv.ErrRange", "internal/strconv.uint64pow10", "math/bits.deBruijn32tab", "math/bits.deBruijn64tab"], plainKeys := false, apart := false, laid := [("math/bits.deBruijn32tab", laid_math_bits_deBruijn32tab), ("math/bits.deBruijn64tab", laid_math_bits_deBruijn64tab), ("internal/strconv.uint64pow10", laid_internal_strconv_uint64pow10), ("strconv.ErrRange", laid_strconv_ErrRange), ("strconv.ErrSyntax", laid_strconv_ErrSyntax)] }
def ParticularsOfSaid : Prop := particularsOfRow.holds Tryz.pinned (OpenSpec.ofChange particularsOfSpec)

/-- ITS FALSE NEIGHBOUR: 'it returns false'. Refute it at one input. -/
def particularsOfWrong : ChangeSpec := { name := "particularsOf", fn := fun _ => fun
  | [d1, d2, d3] => { results := [.lit (.bool false)], args := [d1, d2, d3] }
  | _ => none }
def ParticularsOfWrongFalsely : Prop := particularsOfRow.holds Tryz.pinned (OpenSpec.ofChange particularsOfWrong)

/-- 'garboardlaw18.ParticularsEnlarged': WHATEVER THE INPUT: true; the input reads as it did. -/
def particularsEnlargedSpec : ChangeSpec := { name := "particularsEnlarged", fn := fun _ => fun
  | [d1, d2, d3] => { results := [.lit (.bool true)], args := [d1, d2, d3] }
  | _ => none }
def particularsEnlargedRow : OpenClaim := { program := "ytafimpgfbgigeaagreatdoor", sum := "ef008cfaa46fd53dd742c5731bb68dcf61e3a98b4a7bb0bd3ce932c854c05a60", func := "garboard/garboardlaw18.ParticularsEnlarged", spec := "particularsEnlarged", inPlace := ["internal/bytealg.IndexByteString", "internal/bytealg.IndexString", "internal/abi.NoEscape", "internal/bytealg.MakeNoZero"], unfollowed := true, recurses := true, named := ["internal/bytealg.MaxLen", "strconv.ErrSyntax", "strconv.ErrRange", "internal/strconv.uint64pow10", "math/bits.deBruijn32tab", "math/bits.deBruijn64tab"], plainKeys := false, apart := false, laid := [("math/bits.deBruijn32tab", laid_math_bits_deBruijn32tab), ("math/bits.deBruijn64tab", laid_math_bits_deBruijn64tab), ("internal/strconv.uint64pow10", laid_internal_strconv_uint64pow10), ("strconv.ErrRange", laid_strconv_ErrRange), ("strconv.ErrSyntax", laid_strconv_ErrSyntax)] }
def ParticularsEnlargedSaid : Prop := particularsEnlargedRow.holds Tryz.pinned (OpenSpec.ofChange particularsEnlargedSpec)

/-- ITS FALSE NEIGHBOUR: 'it returns false'. Refute it at one input. -/
def particularsEnlargedWrong : ChangeSpec := { name := "particularsEnlarged", fn := fun _ => fun
  | [d1, d2, d3] => { results := [.lit (.bool false)], args := [d1, d2, d3] }
  | _ => none }
def ParticularsEnlargedWrongFalsely : Prop := particularsEnlargedRow.holds Tryz.pinned (OpenSpec.ofChange particularsEnlargedWrong)

/-- 'garboardlaw18.ParticularsMoved': WHATEVER THE INPUT: true; the input reads as it did. -/
def particularsMovedSpec : ChangeSpec := { name := "particularsMoved", fn := fun _ => fun
  | [d1, d2, d3] => { results := [.lit (.bool true)], args := [d1, d2, d3] }
  | _ => none }
def particularsMovedRow : OpenClaim := { program := "ytafimpgfbgigeaagreatdoor", sum := "ef008cfaa46fd53dd742c5731bb68dcf61e3a98b4a7bb0bd3ce932c854c05a60", func := "garboard/garboardlaw18.ParticularsMoved", spec := "particularsMoved", inPlace := ["internal/bytealg.IndexByteString", "internal/bytealg.IndexString", "internal/abi.NoEscape", "internal/bytealg.MakeNoZero"], unfollowed := true, recurses := true, named := ["internal/bytealg.MaxLen", "strconv.ErrSyntax", "strconv.ErrRange", "internal/strconv.uint64pow10", "math/bits.deBruijn32tab", "math/bits.deBruijn64tab"], plainKeys := false, apart := false, laid := [("math/bits.deBruijn32tab", laid_math_bits_deBruijn32tab), ("math/bits.deBruijn64tab", laid_math_bits_deBruijn64tab), ("internal/strconv.uint64pow10", laid_internal_strconv_uint64pow10), ("strconv.ErrRange", laid_strconv_ErrRange), ("strconv.ErrSyntax", laid_strconv_ErrSyntax)] }
def ParticularsMovedSaid : Prop := particularsMovedRow.holds Tryz.pinned (OpenSpec.ofChange particularsMovedSpec)

/-- ITS FALSE NEIGHBOUR: 'it returns false'. Refute it at one input. -/
def particularsMovedWrong : ChangeSpec := { name := "particularsMoved", fn := fun _ => fun
  | [d1, d2, d3] => { results := [.lit (.bool false)], args := [d1, d2, d3] }
  | _ => none }
def ParticularsMovedWrongFalsely : Prop := particularsMovedRow.holds Tryz.pinned (OpenSpec.ofChange particularsMovedWrong)

/- THE SECOND FORM. 'bulk': how many values and letters a reading holds, each counted each time it is reached (what is shared counts as often as it is met; a slice's spare places count too). A statement '..UptoSaid' is the law's where the arguments, and the package variables that the reading takes, are together of bulk at most 1048576: NARROWER than '..Said'. Prove '..Said' where nothing that the law and all that it calls make is longer than what came in: it says more and counts as full. Else prove '..UptoSaid'. A law counts once. -/
mutual
def uptoBulk {H : Type} : DataW H → Nat
  | .lit (.string bytes) => bytes.length + 1
  | .lit _ => 1
  | .nil => 1
  | .ptr d => uptoBulk d + 1
  | .slice elems spare => uptoBulkAll elems + uptoBulkAll spare + 1
  | .agg parts => uptoBulkAll parts + 1
  | .iface _ d => uptoBulk d + 1
  | .map entries => uptoBulkEntries entries + 1
  | .held _ => 1
def uptoBulkAll {H : Type} : List (DataW H) → Nat
  | [] => 0
  | d :: r => uptoBulk d + uptoBulkAll r
def uptoBulkEntries {H : Type} : List (Lit × DataW H) → Nat
  | [] => 0
  | x :: r => uptoBulkEntry x + uptoBulkEntries r
def uptoBulkEntry {H : Type} : Lit × DataW H → Nat
  | (.string bytes, d) => bytes.length + uptoBulk d + 1
  | (_, d) => uptoBulk d + 1
 end
def uptoSmall : (H : Type) → List (DataW H) → Bool := fun _ ds => decide (uptoBulkAll ds ≤ 1048576)
def OpenSpec.upto (s : _root_.Go.ChangeSpec) : _root_.Go.OpenSpec := { _root_.Go.OpenSpec.ofChange s with cond := some uptoSmall }

/-- 'garboardlaw17.FloatVolumes', WHERE WHAT IT READS IS OF BULK AT MOST 1048576: true; the input reads as it did. -/
def floatVolumesUptoRow : OpenClaim := { program := "ytafimpgfbgigeaagreatdoor", sum := "ef008cfaa46fd53dd742c5731bb68dcf61e3a98b4a7bb0bd3ce932c854c05a60", func := "garboard/garboardlaw17.FloatVolumes", spec := "floatVolumes", inPlace := ["internal/bytealg.IndexByteString", "internal/bytealg.IndexString", "internal/abi.NoEscape", "internal/bytealg.MakeNoZero"], unfollowed := true, recurses := true, named := ["internal/bytealg.MaxLen", "strconv.ErrSyntax", "strconv.ErrRange", "internal/strconv.uint64pow10", "math/bits.deBruijn32tab", "math/bits.deBruijn64tab"], plainKeys := false, apart := false, laid := [("math/bits.deBruijn32tab", laid_math_bits_deBruijn32tab), ("math/bits.deBruijn64tab", laid_math_bits_deBruijn64tab), ("internal/strconv.uint64pow10", laid_internal_strconv_uint64pow10), ("strconv.ErrRange", laid_strconv_ErrRange), ("strconv.ErrSyntax", laid_strconv_ErrSyntax)], narrowed := true }
def FloatVolumesUptoSaid : Prop := floatVolumesUptoRow.holds Tryz.pinned (OpenSpec.upto floatVolumesSpec)

/-- 'garboardlaw17.FloatCentres', WHERE WHAT IT READS IS OF BULK AT MOST 1048576: true; the input reads as it did. -/
def floatCentresUptoRow : OpenClaim := { program := "ytafimpgfbgigeaagreatdoor", sum := "ef008cfaa46fd53dd742c5731bb68dcf61e3a98b4a7bb0bd3ce932c854c05a60", func := "garboard/garboardlaw17.FloatCentres", spec := "floatCentres", inPlace := ["internal/bytealg.IndexByteString", "internal/bytealg.IndexString", "internal/abi.NoEscape", "internal/bytealg.MakeNoZero"], unfollowed := true, recurses := true, named := ["internal/bytealg.MaxLen", "strconv.ErrSyntax", "strconv.ErrRange", "internal/strconv.uint64pow10", "math/bits.deBruijn32tab", "math/bits.deBruijn64tab"], plainKeys := false, apart := false, laid := [("math/bits.deBruijn32tab", laid_math_bits_deBruijn32tab), ("math/bits.deBruijn64tab", laid_math_bits_deBruijn64tab), ("internal/strconv.uint64pow10", laid_internal_strconv_uint64pow10), ("strconv.ErrRange", laid_strconv_ErrRange), ("strconv.ErrSyntax", laid_strconv_ErrSyntax)], narrowed := true }
def FloatCentresUptoSaid : Prop := floatCentresUptoRow.holds Tryz.pinned (OpenSpec.upto floatCentresSpec)

/-- 'garboardlaw17.FloatWaterplanes', WHERE WHAT IT READS IS OF BULK AT MOST 1048576: true; the input reads as it did. -/
def floatWaterplanesUptoRow : OpenClaim := { program := "ytafimpgfbgigeaagreatdoor", sum := "ef008cfaa46fd53dd742c5731bb68dcf61e3a98b4a7bb0bd3ce932c854c05a60", func := "garboard/garboardlaw17.FloatWaterplanes", spec := "floatWaterplanes", inPlace := ["internal/bytealg.IndexByteString", "internal/bytealg.IndexString", "internal/abi.NoEscape", "internal/bytealg.MakeNoZero"], unfollowed := true, recurses := true, named := ["internal/bytealg.MaxLen", "strconv.ErrSyntax", "strconv.ErrRange", "internal/strconv.uint64pow10", "math/bits.deBruijn32tab", "math/bits.deBruijn64tab"], plainKeys := false, apart := false, laid := [("math/bits.deBruijn32tab", laid_math_bits_deBruijn32tab), ("math/bits.deBruijn64tab", laid_math_bits_deBruijn64tab), ("internal/strconv.uint64pow10", laid_internal_strconv_uint64pow10), ("strconv.ErrRange", laid_strconv_ErrRange), ("strconv.ErrSyntax", laid_strconv_ErrSyntax)], narrowed := true }
def FloatWaterplanesUptoSaid : Prop := floatWaterplanesUptoRow.holds Tryz.pinned (OpenSpec.upto floatWaterplanesSpec)

/-- 'garboardlaw18.ParticularsHeights', WHERE WHAT IT READS IS OF BULK AT MOST 1048576: true; the input reads as it did. -/
def particularsHeightsUptoRow : OpenClaim := { program := "ytafimpgfbgigeaagreatdoor", sum := "ef008cfaa46fd53dd742c5731bb68dcf61e3a98b4a7bb0bd3ce932c854c05a60", func := "garboard/garboardlaw18.ParticularsHeights", spec := "particularsHeights", inPlace := ["internal/bytealg.IndexByteString", "internal/bytealg.IndexString", "internal/abi.NoEscape", "internal/bytealg.MakeNoZero"], unfollowed := true, recurses := true, named := ["internal/bytealg.MaxLen", "strconv.ErrSyntax", "strconv.ErrRange", "internal/strconv.uint64pow10", "math/bits.deBruijn32tab", "math/bits.deBruijn64tab"], plainKeys := false, apart := false, laid := [("math/bits.deBruijn32tab", laid_math_bits_deBruijn32tab), ("math/bits.deBruijn64tab", laid_math_bits_deBruijn64tab), ("internal/strconv.uint64pow10", laid_internal_strconv_uint64pow10), ("strconv.ErrRange", laid_strconv_ErrRange), ("strconv.ErrSyntax", laid_strconv_ErrSyntax)], narrowed := true }
def ParticularsHeightsUptoSaid : Prop := particularsHeightsUptoRow.holds Tryz.pinned (OpenSpec.upto particularsHeightsSpec)

/-- 'garboardlaw18.ParticularsRaised', WHERE WHAT IT READS IS OF BULK AT MOST 1048576: true; the input reads as it did. -/
def particularsRaisedUptoRow : OpenClaim := { program := "ytafimpgfbgigeaagreatdoor", sum := "ef008cfaa46fd53dd742c5731bb68dcf61e3a98b4a7bb0bd3ce932c854c05a60", func := "garboard/garboardlaw18.ParticularsRaised", spec := "particularsRaised", inPlace := ["internal/bytealg.IndexByteString", "internal/bytealg.IndexString", "internal/abi.NoEscape", "internal/bytealg.MakeNoZero"], unfollowed := true, recurses := true, named := ["internal/bytealg.MaxLen", "strconv.ErrSyntax", "strconv.ErrRange", "internal/strconv.uint64pow10", "math/bits.deBruijn32tab", "math/bits.deBruijn64tab"], plainKeys := false, apart := false, laid := [("math/bits.deBruijn32tab", laid_math_bits_deBruijn32tab), ("math/bits.deBruijn64tab", laid_math_bits_deBruijn64tab), ("internal/strconv.uint64pow10", laid_internal_strconv_uint64pow10), ("strconv.ErrRange", laid_strconv_ErrRange), ("strconv.ErrSyntax", laid_strconv_ErrSyntax)], narrowed := true }
def ParticularsRaisedUptoSaid : Prop := particularsRaisedUptoRow.holds Tryz.pinned (OpenSpec.upto particularsRaisedSpec)

/-- 'garboardlaw18.ParticularsMasses', WHERE WHAT IT READS IS OF BULK AT MOST 1048576: true; the input reads as it did. -/
def particularsMassesUptoRow : OpenClaim := { program := "ytafimpgfbgigeaagreatdoor", sum := "ef008cfaa46fd53dd742c5731bb68dcf61e3a98b4a7bb0bd3ce932c854c05a60", func := "garboard/garboardlaw18.ParticularsMasses", spec := "particularsMasses", inPlace := ["internal/bytealg.IndexByteString", "internal/bytealg.IndexString", "internal/abi.NoEscape", "internal/bytealg.MakeNoZero"], unfollowed := true, recurses := true, named := ["internal/bytealg.MaxLen", "strconv.ErrSyntax", "strconv.ErrRange", "internal/strconv.uint64pow10", "math/bits.deBruijn32tab", "math/bits.deBruijn64tab"], plainKeys := false, apart := false, laid := [("math/bits.deBruijn32tab", laid_math_bits_deBruijn32tab), ("math/bits.deBruijn64tab", laid_math_bits_deBruijn64tab), ("internal/strconv.uint64pow10", laid_internal_strconv_uint64pow10), ("strconv.ErrRange", laid_strconv_ErrRange), ("strconv.ErrSyntax", laid_strconv_ErrSyntax)], narrowed := true }
def ParticularsMassesUptoSaid : Prop := particularsMassesUptoRow.holds Tryz.pinned (OpenSpec.upto particularsMassesSpec)

/-- 'garboardlaw18.ParticularsOf', WHERE WHAT IT READS IS OF BULK AT MOST 1048576: true; the input reads as it did. -/
def particularsOfUptoRow : OpenClaim := { program := "ytafimpgfbgigeaagreatdoor", sum := "ef008cfaa46fd53dd742c5731bb68dcf61e3a98b4a7bb0bd3ce932c854c05a60", func := "garboard/garboardlaw18.ParticularsOf", spec := "particularsOf", inPlace := ["internal/bytealg.IndexByteString", "internal/bytealg.IndexString", "internal/abi.NoEscape", "internal/bytealg.MakeNoZero"], unfollowed := true, recurses := true, named := ["internal/bytealg.MaxLen", "strconv.ErrSyntax", "strconv.ErrRange", "internal/strconv.uint64pow10", "math/bits.deBruijn32tab", "math/bits.deBruijn64tab"], plainKeys := false, apart := false, laid := [("math/bits.deBruijn32tab", laid_math_bits_deBruijn32tab), ("math/bits.deBruijn64tab", laid_math_bits_deBruijn64tab), ("internal/strconv.uint64pow10", laid_internal_strconv_uint64pow10), ("strconv.ErrRange", laid_strconv_ErrRange), ("strconv.ErrSyntax", laid_strconv_ErrSyntax)], narrowed := true }
def ParticularsOfUptoSaid : Prop := particularsOfUptoRow.holds Tryz.pinned (OpenSpec.upto particularsOfSpec)

/-- 'garboardlaw18.ParticularsEnlarged', WHERE WHAT IT READS IS OF BULK AT MOST 1048576: true; the input reads as it did. -/
def particularsEnlargedUptoRow : OpenClaim := { program := "ytafimpgfbgigeaagreatdoor", sum := "ef008cfaa46fd53dd742c5731bb68dcf61e3a98b4a7bb0bd3ce932c854c05a60", func := "garboard/garboardlaw18.ParticularsEnlarged", spec := "particularsEnlarged", inPlace := ["internal/bytealg.IndexByteString", "internal/bytealg.IndexString", "internal/abi.NoEscape", "internal/bytealg.MakeNoZero"], unfollowed := true, recurses := true, named := ["internal/bytealg.MaxLen", "strconv.ErrSyntax", "strconv.ErrRange", "internal/strconv.uint64pow10", "math/bits.deBruijn32tab", "math/bits.deBruijn64tab"], plainKeys := false, apart := false, laid := [("math/bits.deBruijn32tab", laid_math_bits_deBruijn32tab), ("math/bits.deBruijn64tab", laid_math_bits_deBruijn64tab), ("internal/strconv.uint64pow10", laid_internal_strconv_uint64pow10), ("strconv.ErrRange", laid_strconv_ErrRange), ("strconv.ErrSyntax", laid_strconv_ErrSyntax)], narrowed := true }
def ParticularsEnlargedUptoSaid : Prop := particularsEnlargedUptoRow.holds Tryz.pinned (OpenSpec.upto particularsEnlargedSpec)

/-- 'garboardlaw18.ParticularsMoved', WHERE WHAT IT READS IS OF BULK AT MOST 1048576: true; the input reads as it did. -/
def particularsMovedUptoRow : OpenClaim := { program := "ytafimpgfbgigeaagreatdoor", sum := "ef008cfaa46fd53dd742c5731bb68dcf61e3a98b4a7bb0bd3ce932c854c05a60", func := "garboard/garboardlaw18.ParticularsMoved", spec := "particularsMoved", inPlace := ["internal/bytealg.IndexByteString", "internal/bytealg.IndexString", "internal/abi.NoEscape", "internal/bytealg.MakeNoZero"], unfollowed := true, recurses := true, named := ["internal/bytealg.MaxLen", "strconv.ErrSyntax", "strconv.ErrRange", "internal/strconv.uint64pow10", "math/bits.deBruijn32tab", "math/bits.deBruijn64tab"], plainKeys := false, apart := false, laid := [("math/bits.deBruijn32tab", laid_math_bits_deBruijn32tab), ("math/bits.deBruijn64tab", laid_math_bits_deBruijn64tab), ("internal/strconv.uint64pow10", laid_internal_strconv_uint64pow10), ("strconv.ErrRange", laid_strconv_ErrRange), ("strconv.ErrSyntax", laid_strconv_ErrSyntax)], narrowed := true }
def ParticularsMovedUptoSaid : Prop := particularsMovedUptoRow.holds Tryz.pinned (OpenSpec.upto particularsMovedSpec)

end Rows
end Go.Proofs.YtafimpgfbgigeaaGreatDoor
