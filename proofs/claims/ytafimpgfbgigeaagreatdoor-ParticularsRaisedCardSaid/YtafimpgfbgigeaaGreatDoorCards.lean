/-
  DERIVED. GIVEN WITH THE SEED: THE CARDS: each row of YtafimpgfbgigeaaGreatDoorRows.lean that lists a variable, with what it lists TIED to the program's text (the seventh form; the later family's looks); each row that meets fmt, with fmt's text TOLD by the authors' own Lean function (tested against real Go, not proved from fmt's source: count such statements apart). THE CARD IS WHAT COUNTS. Prove the row's statement (the work); the ties are given (YtafimpgfbgigeaaGreatDoorTie.lean); close each card by the builder's one call (the guide's Derived/Test/ToyasCard.lean, 'card_holds'). Laid BY PROGRAM, IN A SANDBOX (cutbox-door.mjs). By AI agents, Wed Nov 11 2026. No macro, syntax, notation, axiom, sorry.
-/
import Derived.Test.YtafimpgfbgigeaaGreatDoorRows
import GoSem.ClaimSeven
namespace Go.Proofs.YtafimpgfbgigeaaGreatDoor
namespace Rows

/-- THE TIED CARD OF 'garboardlaw17.FloatVolumes'. -/
def floatVolumesCard : Claim7 := { stood := { row := floatVolumesRow, standIns := [], harness := (true, "ce9edf15aa0eaa7adf8ef1b5fae6badd48e84ae115654ad7b468703eca27a8f4"), looks := true }, kinds := [], alts := [], laidByText := true, laidKinds := [.data, .data, .data, .sentinel, .sentinel], laidTests := true, laidLooks := .later }
def FloatVolumesCardSaid : Prop := Claim7.holds Tryz.pinned (.plain (OpenSpec.ofChange floatVolumesSpec)) floatVolumesCard

/-- THE TIED CARD OF 'garboardlaw17.FloatCentres'. -/
def floatCentresCard : Claim7 := { stood := { row := floatCentresRow, standIns := [], harness := (true, "ce9edf15aa0eaa7adf8ef1b5fae6badd48e84ae115654ad7b468703eca27a8f4"), looks := true }, kinds := [], alts := [], laidByText := true, laidKinds := [.data, .data, .data, .sentinel, .sentinel], laidTests := true, laidLooks := .later }
def FloatCentresCardSaid : Prop := Claim7.holds Tryz.pinned (.plain (OpenSpec.ofChange floatCentresSpec)) floatCentresCard

/-- THE TIED CARD OF 'garboardlaw17.FloatWaterplanes'. -/
def floatWaterplanesCard : Claim7 := { stood := { row := floatWaterplanesRow, standIns := [], harness := (true, "ce9edf15aa0eaa7adf8ef1b5fae6badd48e84ae115654ad7b468703eca27a8f4"), looks := true }, kinds := [], alts := [], laidByText := true, laidKinds := [.data, .data, .data, .sentinel, .sentinel], laidTests := true, laidLooks := .later }
def FloatWaterplanesCardSaid : Prop := Claim7.holds Tryz.pinned (.plain (OpenSpec.ofChange floatWaterplanesSpec)) floatWaterplanesCard

/-- THE TIED CARD OF 'garboardlaw18.ParticularsHeights'. -/
def particularsHeightsCard : Claim7 := { stood := { row := particularsHeightsRow, standIns := [], harness := (true, "ce9edf15aa0eaa7adf8ef1b5fae6badd48e84ae115654ad7b468703eca27a8f4"), looks := true }, kinds := [], alts := [], laidByText := true, laidKinds := [.data, .data, .data, .sentinel, .sentinel], laidTests := true, laidLooks := .later }
def ParticularsHeightsCardSaid : Prop := Claim7.holds Tryz.pinned (.plain (OpenSpec.ofChange particularsHeightsSpec)) particularsHeightsCard

/-- THE TIED CARD OF 'garboardlaw18.ParticularsRaised'. -/
def particularsRaisedCard : Claim7 := { stood := { row := particularsRaisedRow, standIns := [], harness := (true, "ce9edf15aa0eaa7adf8ef1b5fae6badd48e84ae115654ad7b468703eca27a8f4"), looks := true }, kinds := [], alts := [], laidByText := true, laidKinds := [.data, .data, .data, .sentinel, .sentinel], laidTests := true, laidLooks := .later }
def ParticularsRaisedCardSaid : Prop := Claim7.holds Tryz.pinned (.plain (OpenSpec.ofChange particularsRaisedSpec)) particularsRaisedCard

/-- THE TIED CARD OF 'garboardlaw18.ParticularsMasses'. -/
def particularsMassesCard : Claim7 := { stood := { row := particularsMassesRow, standIns := [], harness := (true, "ce9edf15aa0eaa7adf8ef1b5fae6badd48e84ae115654ad7b468703eca27a8f4"), looks := true }, kinds := [], alts := [], laidByText := true, laidKinds := [.data, .data, .data, .sentinel, .sentinel], laidTests := true, laidLooks := .later }
def ParticularsMassesCardSaid : Prop := Claim7.holds Tryz.pinned (.plain (OpenSpec.ofChange particularsMassesSpec)) particularsMassesCard

/-- THE TIED CARD OF 'garboardlaw18.ParticularsOf'. -/
def particularsOfCard : Claim7 := { stood := { row := particularsOfRow, standIns := [], harness := (true, "ce9edf15aa0eaa7adf8ef1b5fae6badd48e84ae115654ad7b468703eca27a8f4"), looks := true }, kinds := [], alts := [], laidByText := true, laidKinds := [.data, .data, .data, .sentinel, .sentinel], laidTests := true, laidLooks := .later }
def ParticularsOfCardSaid : Prop := Claim7.holds Tryz.pinned (.plain (OpenSpec.ofChange particularsOfSpec)) particularsOfCard

/-- THE TIED CARD OF 'garboardlaw18.ParticularsEnlarged'. -/
def particularsEnlargedCard : Claim7 := { stood := { row := particularsEnlargedRow, standIns := [], harness := (true, "ce9edf15aa0eaa7adf8ef1b5fae6badd48e84ae115654ad7b468703eca27a8f4"), looks := true }, kinds := [], alts := [], laidByText := true, laidKinds := [.data, .data, .data, .sentinel, .sentinel], laidTests := true, laidLooks := .later }
def ParticularsEnlargedCardSaid : Prop := Claim7.holds Tryz.pinned (.plain (OpenSpec.ofChange particularsEnlargedSpec)) particularsEnlargedCard

/-- THE TIED CARD OF 'garboardlaw18.ParticularsMoved'. -/
def particularsMovedCard : Claim7 := { stood := { row := particularsMovedRow, standIns := [], harness := (true, "ce9edf15aa0eaa7adf8ef1b5fae6badd48e84ae115654ad7b468703eca27a8f4"), looks := true }, kinds := [], alts := [], laidByText := true, laidKinds := [.data, .data, .data, .sentinel, .sentinel], laidTests := true, laidLooks := .later }
def ParticularsMovedCardSaid : Prop := Claim7.holds Tryz.pinned (.plain (OpenSpec.ofChange particularsMovedSpec)) particularsMovedCard

/-- THE SECOND FORM's CARD OF 'garboardlaw17.FloatVolumes'. -/
def floatVolumesUptoCard : Claim7 := { stood := { row := floatVolumesUptoRow, standIns := [], harness := (true, "ce9edf15aa0eaa7adf8ef1b5fae6badd48e84ae115654ad7b468703eca27a8f4"), looks := true }, kinds := [], alts := [], laidByText := true, laidKinds := [.data, .data, .data, .sentinel, .sentinel], laidTests := true, laidLooks := .later }
def FloatVolumesUptoCardSaid : Prop := Claim7.holds Tryz.pinned (.plain (OpenSpec.upto floatVolumesSpec)) floatVolumesUptoCard

/-- THE SECOND FORM's CARD OF 'garboardlaw17.FloatCentres'. -/
def floatCentresUptoCard : Claim7 := { stood := { row := floatCentresUptoRow, standIns := [], harness := (true, "ce9edf15aa0eaa7adf8ef1b5fae6badd48e84ae115654ad7b468703eca27a8f4"), looks := true }, kinds := [], alts := [], laidByText := true, laidKinds := [.data, .data, .data, .sentinel, .sentinel], laidTests := true, laidLooks := .later }
def FloatCentresUptoCardSaid : Prop := Claim7.holds Tryz.pinned (.plain (OpenSpec.upto floatCentresSpec)) floatCentresUptoCard

/-- THE SECOND FORM's CARD OF 'garboardlaw17.FloatWaterplanes'. -/
def floatWaterplanesUptoCard : Claim7 := { stood := { row := floatWaterplanesUptoRow, standIns := [], harness := (true, "ce9edf15aa0eaa7adf8ef1b5fae6badd48e84ae115654ad7b468703eca27a8f4"), looks := true }, kinds := [], alts := [], laidByText := true, laidKinds := [.data, .data, .data, .sentinel, .sentinel], laidTests := true, laidLooks := .later }
def FloatWaterplanesUptoCardSaid : Prop := Claim7.holds Tryz.pinned (.plain (OpenSpec.upto floatWaterplanesSpec)) floatWaterplanesUptoCard

/-- THE SECOND FORM's CARD OF 'garboardlaw18.ParticularsHeights'. -/
def particularsHeightsUptoCard : Claim7 := { stood := { row := particularsHeightsUptoRow, standIns := [], harness := (true, "ce9edf15aa0eaa7adf8ef1b5fae6badd48e84ae115654ad7b468703eca27a8f4"), looks := true }, kinds := [], alts := [], laidByText := true, laidKinds := [.data, .data, .data, .sentinel, .sentinel], laidTests := true, laidLooks := .later }
def ParticularsHeightsUptoCardSaid : Prop := Claim7.holds Tryz.pinned (.plain (OpenSpec.upto particularsHeightsSpec)) particularsHeightsUptoCard

/-- THE SECOND FORM's CARD OF 'garboardlaw18.ParticularsRaised'. -/
def particularsRaisedUptoCard : Claim7 := { stood := { row := particularsRaisedUptoRow, standIns := [], harness := (true, "ce9edf15aa0eaa7adf8ef1b5fae6badd48e84ae115654ad7b468703eca27a8f4"), looks := true }, kinds := [], alts := [], laidByText := true, laidKinds := [.data, .data, .data, .sentinel, .sentinel], laidTests := true, laidLooks := .later }
def ParticularsRaisedUptoCardSaid : Prop := Claim7.holds Tryz.pinned (.plain (OpenSpec.upto particularsRaisedSpec)) particularsRaisedUptoCard

/-- THE SECOND FORM's CARD OF 'garboardlaw18.ParticularsMasses'. -/
def particularsMassesUptoCard : Claim7 := { stood := { row := particularsMassesUptoRow, standIns := [], harness := (true, "ce9edf15aa0eaa7adf8ef1b5fae6badd48e84ae115654ad7b468703eca27a8f4"), looks := true }, kinds := [], alts := [], laidByText := true, laidKinds := [.data, .data, .data, .sentinel, .sentinel], laidTests := true, laidLooks := .later }
def ParticularsMassesUptoCardSaid : Prop := Claim7.holds Tryz.pinned (.plain (OpenSpec.upto particularsMassesSpec)) particularsMassesUptoCard

/-- THE SECOND FORM's CARD OF 'garboardlaw18.ParticularsOf'. -/
def particularsOfUptoCard : Claim7 := { stood := { row := particularsOfUptoRow, standIns := [], harness := (true, "ce9edf15aa0eaa7adf8ef1b5fae6badd48e84ae115654ad7b468703eca27a8f4"), looks := true }, kinds := [], alts := [], laidByText := true, laidKinds := [.data, .data, .data, .sentinel, .sentinel], laidTests := true, laidLooks := .later }
def ParticularsOfUptoCardSaid : Prop := Claim7.holds Tryz.pinned (.plain (OpenSpec.upto particularsOfSpec)) particularsOfUptoCard

/-- THE SECOND FORM's CARD OF 'garboardlaw18.ParticularsEnlarged'. -/
def particularsEnlargedUptoCard : Claim7 := { stood := { row := particularsEnlargedUptoRow, standIns := [], harness := (true, "ce9edf15aa0eaa7adf8ef1b5fae6badd48e84ae115654ad7b468703eca27a8f4"), looks := true }, kinds := [], alts := [], laidByText := true, laidKinds := [.data, .data, .data, .sentinel, .sentinel], laidTests := true, laidLooks := .later }
def ParticularsEnlargedUptoCardSaid : Prop := Claim7.holds Tryz.pinned (.plain (OpenSpec.upto particularsEnlargedSpec)) particularsEnlargedUptoCard

/-- THE SECOND FORM's CARD OF 'garboardlaw18.ParticularsMoved'. -/
def particularsMovedUptoCard : Claim7 := { stood := { row := particularsMovedUptoRow, standIns := [], harness := (true, "ce9edf15aa0eaa7adf8ef1b5fae6badd48e84ae115654ad7b468703eca27a8f4"), looks := true }, kinds := [], alts := [], laidByText := true, laidKinds := [.data, .data, .data, .sentinel, .sentinel], laidTests := true, laidLooks := .later }
def ParticularsMovedUptoCardSaid : Prop := Claim7.holds Tryz.pinned (.plain (OpenSpec.upto particularsMovedSpec)) particularsMovedUptoCard
end Rows
end Go.Proofs.YtafimpgfbgigeaaGreatDoor
