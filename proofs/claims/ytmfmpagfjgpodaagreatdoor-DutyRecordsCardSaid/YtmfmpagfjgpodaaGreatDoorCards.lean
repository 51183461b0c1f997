/-
  DERIVED. GIVEN WITH THE SEED: THE CARDS: each row of YtmfmpagfjgpodaaGreatDoorRows.lean that lists a variable, with what it lists TIED to the program's text (the seventh form; the later family's looks); each row that meets fmt, with fmt's text TOLD by the authors' own Lean function (tested against real Go, not proved from fmt's source: count such statements apart). THE CARD IS WHAT COUNTS. Prove the row's statement (the work); the ties are given (YtmfmpagfjgpodaaGreatDoorTie.lean); close each card by the builder's one call (the guide's Derived/Test/ToyasCard.lean, 'card_holds'). Laid BY PROGRAM, IN A SANDBOX (cutbox-door.mjs). By AI agents, Wed Nov 11 2026. No macro, syntax, notation, axiom, sorry.
-/
import Derived.Test.YtmfmpagfjgpodaaGreatDoorRows
import GoSem.ClaimSeven
namespace Go.Proofs.YtmfmpagfjgpodaaGreatDoor
namespace Rows

/-- THE TIED CARD OF 'fiacrelaw07.DutyRecords'. -/
def dutyRecordsCard : Claim7 := { stood := { row := dutyRecordsRow, standIns := [], harness := (true, "b2b660f4c2a8c846ca8e74fda092eeb5e05ce2982dc7e7a1acfec0574264e0e7"), looks := true }, kinds := [], alts := [], laidByText := true, laidKinds := [.data, .data, .data, .data, .sentinel, .sentinel, .pinned], laidTests := true, laidLooks := .later }
def DutyRecordsCardSaid : Prop := Claim7.holds Tryz.pinned (.plain (OpenSpec.ofChange dutyRecordsSpec)) dutyRecordsCard

/-- THE SECOND FORM's CARD OF 'fiacrelaw07.DutyRecords'. -/
def dutyRecordsUptoCard : Claim7 := { stood := { row := dutyRecordsUptoRow, standIns := [], harness := (true, "b2b660f4c2a8c846ca8e74fda092eeb5e05ce2982dc7e7a1acfec0574264e0e7"), looks := true }, kinds := [], alts := [], laidByText := true, laidKinds := [.data, .data, .data, .data, .sentinel, .sentinel, .pinned], laidTests := true, laidLooks := .later }
def DutyRecordsUptoCardSaid : Prop := Claim7.holds Tryz.pinned (.plain (OpenSpec.upto dutyRecordsSpec)) dutyRecordsUptoCard
end Rows
end Go.Proofs.YtmfmpagfjgpodaaGreatDoor
