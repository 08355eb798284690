/-
  DERIVED. GIVEN WITH THE SEED: THE CARDS: each row of YtmnancfboococaaGreatDoorRows.lean that lists a variable, with what it lists TIED to the program's text (the seventh form; the later family's looks); each row that meets fmt, with fmt's text TOLD by the authors' own Lean function (tested against real Go, not proved from fmt's source: count such statements apart). THE CARD IS WHAT COUNTS. Prove the row's statement (the work); the ties are given (YtmnancfboococaaGreatDoorTie.lean); close each card by the builder's one call (the guide's Derived/Test/ToyasCard.lean, 'card_holds'). Laid BY PROGRAM, IN A SANDBOX (cutbox-door.mjs). By AI agents, Wed Nov 11 2026. No macro, syntax, notation, axiom, sorry.
-/
import Derived.Test.YtmnancfboococaaGreatDoorRows
import GoSem.ClaimSeven
namespace Go.Proofs.YtmnancfboococaaGreatDoor
namespace Rows

/-- THE TIED CARD OF 'garboardlaw17.FloatWaterplanes'. -/
def floatWaterplanesCard : Claim7 := { stood := { row := floatWaterplanesRow, standIns := [], harness := (true, "c950a4b405ece2c7bb5a9d3963c7cff2c826d70397d4f6407373dce119441a08"), looks := true }, kinds := [], alts := [], laidByText := true, laidKinds := [.data, .data, .data, .sentinel, .sentinel], laidTests := true, laidLooks := .later }
def FloatWaterplanesCardSaid : Prop := Claim7.holds Tryz.pinned (.plain (OpenSpec.ofChange floatWaterplanesSpec)) floatWaterplanesCard

/-- THE TIED CARD OF 'garboardlaw17.FloatGrows'. -/
def floatGrowsCard : Claim7 := { stood := { row := floatGrowsRow, standIns := [], harness := (true, "c950a4b405ece2c7bb5a9d3963c7cff2c826d70397d4f6407373dce119441a08"), looks := true }, kinds := [], alts := [], laidByText := true, laidKinds := [.data, .data, .data, .sentinel, .sentinel], laidTests := true, laidLooks := .later }
def FloatGrowsCardSaid : Prop := Claim7.holds Tryz.pinned (.plain (OpenSpec.ofChange floatGrowsSpec)) floatGrowsCard

/-- THE TIED CARD OF 'garboardlaw17.FloatCentres'. -/
def floatCentresCard : Claim7 := { stood := { row := floatCentresRow, standIns := [], harness := (true, "c950a4b405ece2c7bb5a9d3963c7cff2c826d70397d4f6407373dce119441a08"), looks := true }, kinds := [], alts := [], laidByText := true, laidKinds := [.data, .data, .data, .sentinel, .sentinel], laidTests := true, laidLooks := .later }
def FloatCentresCardSaid : Prop := Claim7.holds Tryz.pinned (.plain (OpenSpec.ofChange floatCentresSpec)) floatCentresCard

/-- THE TIED CARD OF 'garboardlaw17.FloatDivides'. -/
def floatDividesCard : Claim7 := { stood := { row := floatDividesRow, standIns := [], harness := (true, "c950a4b405ece2c7bb5a9d3963c7cff2c826d70397d4f6407373dce119441a08"), looks := true }, kinds := [], alts := [], laidByText := true, laidKinds := [.data, .data, .data, .sentinel, .sentinel], laidTests := true, laidLooks := .later }
def FloatDividesCardSaid : Prop := Claim7.holds Tryz.pinned (.plain (OpenSpec.ofChange floatDividesSpec)) floatDividesCard

/-- THE TIED CARD OF 'garboardlaw17.FloatMirrors'. -/
def floatMirrorsCard : Claim7 := { stood := { row := floatMirrorsRow, standIns := [], harness := (true, "c950a4b405ece2c7bb5a9d3963c7cff2c826d70397d4f6407373dce119441a08"), looks := true }, kinds := [], alts := [], laidByText := true, laidKinds := [.data, .data, .data, .sentinel, .sentinel], laidTests := true, laidLooks := .later }
def FloatMirrorsCardSaid : Prop := Claim7.holds Tryz.pinned (.plain (OpenSpec.ofChange floatMirrorsSpec)) floatMirrorsCard

/-- THE TIED CARD OF 'garboardlaw17.FloatVolumes'. -/
def floatVolumesCard : Claim7 := { stood := { row := floatVolumesRow, standIns := [], harness := (true, "c950a4b405ece2c7bb5a9d3963c7cff2c826d70397d4f6407373dce119441a08"), looks := true }, kinds := [], alts := [], laidByText := true, laidKinds := [.data, .data, .data, .sentinel, .sentinel], laidTests := true, laidLooks := .later }
def FloatVolumesCardSaid : Prop := Claim7.holds Tryz.pinned (.plain (OpenSpec.ofChange floatVolumesSpec)) floatVolumesCard

/-- THE TIED CARD OF 'garboardlaw17.FloatAdds'. -/
def floatAddsCard : Claim7 := { stood := { row := floatAddsRow, standIns := [], harness := (true, "c950a4b405ece2c7bb5a9d3963c7cff2c826d70397d4f6407373dce119441a08"), looks := true }, kinds := [], alts := [], laidByText := true, laidKinds := [.data, .data, .data, .sentinel, .sentinel], laidTests := true, laidLooks := .later }
def FloatAddsCardSaid : Prop := Claim7.holds Tryz.pinned (.plain (OpenSpec.ofChange floatAddsSpec)) floatAddsCard

/-- THE TIED CARD OF 'garboardlaw17.FloatWithin'. -/
def floatWithinCard : Claim7 := { stood := { row := floatWithinRow, standIns := [], harness := (true, "c950a4b405ece2c7bb5a9d3963c7cff2c826d70397d4f6407373dce119441a08"), looks := true }, kinds := [], alts := [], laidByText := true, laidKinds := [.data, .data, .data, .sentinel, .sentinel], laidTests := true, laidLooks := .later }
def FloatWithinCardSaid : Prop := Claim7.holds Tryz.pinned (.plain (OpenSpec.ofChange floatWithinSpec)) floatWithinCard

/-- THE SECOND FORM's CARD OF 'garboardlaw17.FloatWaterplanes'. -/
def floatWaterplanesUptoCard : Claim7 := { stood := { row := floatWaterplanesUptoRow, standIns := [], harness := (true, "c950a4b405ece2c7bb5a9d3963c7cff2c826d70397d4f6407373dce119441a08"), looks := true }, kinds := [], alts := [], laidByText := true, laidKinds := [.data, .data, .data, .sentinel, .sentinel], laidTests := true, laidLooks := .later }
def FloatWaterplanesUptoCardSaid : Prop := Claim7.holds Tryz.pinned (.plain (OpenSpec.upto floatWaterplanesSpec)) floatWaterplanesUptoCard

/-- THE SECOND FORM's CARD OF 'garboardlaw17.FloatGrows'. -/
def floatGrowsUptoCard : Claim7 := { stood := { row := floatGrowsUptoRow, standIns := [], harness := (true, "c950a4b405ece2c7bb5a9d3963c7cff2c826d70397d4f6407373dce119441a08"), looks := true }, kinds := [], alts := [], laidByText := true, laidKinds := [.data, .data, .data, .sentinel, .sentinel], laidTests := true, laidLooks := .later }
def FloatGrowsUptoCardSaid : Prop := Claim7.holds Tryz.pinned (.plain (OpenSpec.upto floatGrowsSpec)) floatGrowsUptoCard

/-- THE SECOND FORM's CARD OF 'garboardlaw17.FloatCentres'. -/
def floatCentresUptoCard : Claim7 := { stood := { row := floatCentresUptoRow, standIns := [], harness := (true, "c950a4b405ece2c7bb5a9d3963c7cff2c826d70397d4f6407373dce119441a08"), looks := true }, kinds := [], alts := [], laidByText := true, laidKinds := [.data, .data, .data, .sentinel, .sentinel], laidTests := true, laidLooks := .later }
def FloatCentresUptoCardSaid : Prop := Claim7.holds Tryz.pinned (.plain (OpenSpec.upto floatCentresSpec)) floatCentresUptoCard

/-- THE SECOND FORM's CARD OF 'garboardlaw17.FloatDivides'. -/
def floatDividesUptoCard : Claim7 := { stood := { row := floatDividesUptoRow, standIns := [], harness := (true, "c950a4b405ece2c7bb5a9d3963c7cff2c826d70397d4f6407373dce119441a08"), looks := true }, kinds := [], alts := [], laidByText := true, laidKinds := [.data, .data, .data, .sentinel, .sentinel], laidTests := true, laidLooks := .later }
def FloatDividesUptoCardSaid : Prop := Claim7.holds Tryz.pinned (.plain (OpenSpec.upto floatDividesSpec)) floatDividesUptoCard

/-- THE SECOND FORM's CARD OF 'garboardlaw17.FloatMirrors'. -/
def floatMirrorsUptoCard : Claim7 := { stood := { row := floatMirrorsUptoRow, standIns := [], harness := (true, "c950a4b405ece2c7bb5a9d3963c7cff2c826d70397d4f6407373dce119441a08"), looks := true }, kinds := [], alts := [], laidByText := true, laidKinds := [.data, .data, .data, .sentinel, .sentinel], laidTests := true, laidLooks := .later }
def FloatMirrorsUptoCardSaid : Prop := Claim7.holds Tryz.pinned (.plain (OpenSpec.upto floatMirrorsSpec)) floatMirrorsUptoCard

/-- THE SECOND FORM's CARD OF 'garboardlaw17.FloatVolumes'. -/
def floatVolumesUptoCard : Claim7 := { stood := { row := floatVolumesUptoRow, standIns := [], harness := (true, "c950a4b405ece2c7bb5a9d3963c7cff2c826d70397d4f6407373dce119441a08"), looks := true }, kinds := [], alts := [], laidByText := true, laidKinds := [.data, .data, .data, .sentinel, .sentinel], laidTests := true, laidLooks := .later }
def FloatVolumesUptoCardSaid : Prop := Claim7.holds Tryz.pinned (.plain (OpenSpec.upto floatVolumesSpec)) floatVolumesUptoCard

/-- THE SECOND FORM's CARD OF 'garboardlaw17.FloatAdds'. -/
def floatAddsUptoCard : Claim7 := { stood := { row := floatAddsUptoRow, standIns := [], harness := (true, "c950a4b405ece2c7bb5a9d3963c7cff2c826d70397d4f6407373dce119441a08"), looks := true }, kinds := [], alts := [], laidByText := true, laidKinds := [.data, .data, .data, .sentinel, .sentinel], laidTests := true, laidLooks := .later }
def FloatAddsUptoCardSaid : Prop := Claim7.holds Tryz.pinned (.plain (OpenSpec.upto floatAddsSpec)) floatAddsUptoCard

/-- THE SECOND FORM's CARD OF 'garboardlaw17.FloatWithin'. -/
def floatWithinUptoCard : Claim7 := { stood := { row := floatWithinUptoRow, standIns := [], harness := (true, "c950a4b405ece2c7bb5a9d3963c7cff2c826d70397d4f6407373dce119441a08"), looks := true }, kinds := [], alts := [], laidByText := true, laidKinds := [.data, .data, .data, .sentinel, .sentinel], laidTests := true, laidLooks := .later }
def FloatWithinUptoCardSaid : Prop := Claim7.holds Tryz.pinned (.plain (OpenSpec.upto floatWithinSpec)) floatWithinUptoCard
end Rows
end Go.Proofs.YtmnancfboococaaGreatDoor
