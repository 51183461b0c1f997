/-
  DERIVED. GIVEN WITH THE SEED: THE CARDS: each row of YthbgghmjbaldlaaGreatDoorRows.lean that lists a variable, with what it lists TIED to the program's text (the seventh form; the later family's looks); each row that meets fmt, with fmt's text TOLD by the authors' own Lean function (tested against real Go, not proved from fmt's source: count such statements apart). THE CARD IS WHAT COUNTS. Prove the row's statement (the work); the ties are given (YthbgghmjbaldlaaGreatDoorTie.lean); close each card by the builder's one call (the guide's Derived/Test/ToyasCard.lean, 'card_holds'). Laid BY PROGRAM, IN A SANDBOX (cutbox-door.mjs). By AI agents, Wed Nov 11 2026. No macro, syntax, notation, axiom, sorry.
-/
import Derived.Test.YthbgghmjbaldlaaGreatDoorRows
import GoSem.ClaimSeven
namespace Go.Proofs.YthbgghmjbaldlaaGreatDoor
namespace Rows

/-- THE TIED CARD OF 'fiacrelaw09.FoundAmbiguous'. -/
def foundAmbiguousCard : Claim7 := { stood := { row := foundAmbiguousRow, standIns := [], harness := (true, "bc12a0f2ef40e4c3e41d47bdbfcbd85c3e4f45f43795a5a3e4a1872e5b8e9b08"), looks := true }, kinds := [], alts := [], laidByText := true, laidKinds := [.data, .data, .data], laidTests := true, laidLooks := .later }
def FoundAmbiguousCardSaid : Prop := Claim7.holds Tryz.pinned (.plain (OpenSpec.ofChange foundAmbiguousSpec)) foundAmbiguousCard

/-- THE TIED CARD OF 'fiacrelaw09.FoundProofs'. -/
def foundProofsCard : Claim7 := { stood := { row := foundProofsRow, standIns := [], harness := (true, "bc12a0f2ef40e4c3e41d47bdbfcbd85c3e4f45f43795a5a3e4a1872e5b8e9b08"), looks := true }, kinds := [], alts := [], laidByText := true, laidKinds := [.data, .data, .data], laidTests := true, laidLooks := .later }
def FoundProofsCardSaid : Prop := Claim7.holds Tryz.pinned (.plain (OpenSpec.ofChange foundProofsSpec)) foundProofsCard

/-- THE TIED CARD OF 'fiacrelaw09.FoundMost'. -/
def foundMostCard : Claim7 := { stood := { row := foundMostRow, standIns := [], harness := (true, "bc12a0f2ef40e4c3e41d47bdbfcbd85c3e4f45f43795a5a3e4a1872e5b8e9b08"), looks := true }, kinds := [], alts := [], laidByText := true, laidKinds := [.data, .data, .data], laidTests := true, laidLooks := .later }
def FoundMostCardSaid : Prop := Claim7.holds Tryz.pinned (.plain (OpenSpec.ofChange foundMostSpec)) foundMostCard

/-- THE TIED CARD OF 'fiacrelaw09.FoundEventTexts'. -/
def foundEventTextsCard : Claim7 := { stood := { row := foundEventTextsRow, standIns := [], harness := (true, "bc12a0f2ef40e4c3e41d47bdbfcbd85c3e4f45f43795a5a3e4a1872e5b8e9b08"), looks := true }, kinds := [], alts := [], laidByText := true, laidKinds := [.data, .data, .data, .data, .sentinel, .sentinel, .widerDeep, .pinned], laidTests := true, laidLooks := .later }
def FoundEventTextsCardSaid : Prop := Claim7.holds Tryz.pinned (.plain (OpenSpec.ofChange foundEventTextsSpec)) foundEventTextsCard

/-- THE TIED CARD OF 'fiacrelaw09.FoundItemTexts'. -/
def foundItemTextsCard : Claim7 := { stood := { row := foundItemTextsRow, standIns := [], harness := (true, "bc12a0f2ef40e4c3e41d47bdbfcbd85c3e4f45f43795a5a3e4a1872e5b8e9b08"), looks := true }, kinds := [], alts := [], laidByText := true, laidKinds := [.data, .data, .data, .data, .sentinel, .sentinel, .pinned], laidTests := true, laidLooks := .later }
def FoundItemTextsCardSaid : Prop := Claim7.holds Tryz.pinned (.plain (OpenSpec.ofChange foundItemTextsSpec)) foundItemTextsCard

/-- THE TIED CARD OF 'fiacretop.TopFoundTold'. -/
def topFoundToldCard : Claim7 := { stood := { row := topFoundToldRow, standIns := [], harness := (true, "bc12a0f2ef40e4c3e41d47bdbfcbd85c3e4f45f43795a5a3e4a1872e5b8e9b08"), looks := true }, kinds := [], alts := [], laidByText := true, laidKinds := [.data, .data, .data, .data, .sentinel, .sentinel, .widerDeep, .pinned], laidTests := true, laidLooks := .later }
def TopFoundToldCardSaid : Prop := Claim7.holds Tryz.pinned (.plain (OpenSpec.ofChange topFoundToldSpec)) topFoundToldCard

/-- THE SECOND FORM's CARD OF 'fiacrelaw09.FoundAmbiguous'. -/
def foundAmbiguousUptoCard : Claim7 := { stood := { row := foundAmbiguousUptoRow, standIns := [], harness := (true, "bc12a0f2ef40e4c3e41d47bdbfcbd85c3e4f45f43795a5a3e4a1872e5b8e9b08"), looks := true }, kinds := [], alts := [], laidByText := true, laidKinds := [.data, .data, .data], laidTests := true, laidLooks := .later }
def FoundAmbiguousUptoCardSaid : Prop := Claim7.holds Tryz.pinned (.plain (OpenSpec.upto foundAmbiguousSpec)) foundAmbiguousUptoCard

/-- THE SECOND FORM's CARD OF 'fiacrelaw09.FoundProofs'. -/
def foundProofsUptoCard : Claim7 := { stood := { row := foundProofsUptoRow, standIns := [], harness := (true, "bc12a0f2ef40e4c3e41d47bdbfcbd85c3e4f45f43795a5a3e4a1872e5b8e9b08"), looks := true }, kinds := [], alts := [], laidByText := true, laidKinds := [.data, .data, .data], laidTests := true, laidLooks := .later }
def FoundProofsUptoCardSaid : Prop := Claim7.holds Tryz.pinned (.plain (OpenSpec.upto foundProofsSpec)) foundProofsUptoCard

/-- THE SECOND FORM's CARD OF 'fiacrelaw09.FoundMost'. -/
def foundMostUptoCard : Claim7 := { stood := { row := foundMostUptoRow, standIns := [], harness := (true, "bc12a0f2ef40e4c3e41d47bdbfcbd85c3e4f45f43795a5a3e4a1872e5b8e9b08"), looks := true }, kinds := [], alts := [], laidByText := true, laidKinds := [.data, .data, .data], laidTests := true, laidLooks := .later }
def FoundMostUptoCardSaid : Prop := Claim7.holds Tryz.pinned (.plain (OpenSpec.upto foundMostSpec)) foundMostUptoCard

/-- THE SECOND FORM's CARD OF 'fiacrelaw09.FoundEventTexts'. -/
def foundEventTextsUptoCard : Claim7 := { stood := { row := foundEventTextsUptoRow, standIns := [], harness := (true, "bc12a0f2ef40e4c3e41d47bdbfcbd85c3e4f45f43795a5a3e4a1872e5b8e9b08"), looks := true }, kinds := [], alts := [], laidByText := true, laidKinds := [.data, .data, .data, .data, .sentinel, .sentinel, .widerDeep, .pinned], laidTests := true, laidLooks := .later }
def FoundEventTextsUptoCardSaid : Prop := Claim7.holds Tryz.pinned (.plain (OpenSpec.upto foundEventTextsSpec)) foundEventTextsUptoCard

/-- THE SECOND FORM's CARD OF 'fiacrelaw09.FoundItemTexts'. -/
def foundItemTextsUptoCard : Claim7 := { stood := { row := foundItemTextsUptoRow, standIns := [], harness := (true, "bc12a0f2ef40e4c3e41d47bdbfcbd85c3e4f45f43795a5a3e4a1872e5b8e9b08"), looks := true }, kinds := [], alts := [], laidByText := true, laidKinds := [.data, .data, .data, .data, .sentinel, .sentinel, .pinned], laidTests := true, laidLooks := .later }
def FoundItemTextsUptoCardSaid : Prop := Claim7.holds Tryz.pinned (.plain (OpenSpec.upto foundItemTextsSpec)) foundItemTextsUptoCard

/-- THE SECOND FORM's CARD OF 'fiacretop.TopFoundTold'. -/
def topFoundToldUptoCard : Claim7 := { stood := { row := topFoundToldUptoRow, standIns := [], harness := (true, "bc12a0f2ef40e4c3e41d47bdbfcbd85c3e4f45f43795a5a3e4a1872e5b8e9b08"), looks := true }, kinds := [], alts := [], laidByText := true, laidKinds := [.data, .data, .data, .data, .sentinel, .sentinel, .widerDeep, .pinned], laidTests := true, laidLooks := .later }
def TopFoundToldUptoCardSaid : Prop := Claim7.holds Tryz.pinned (.plain (OpenSpec.upto topFoundToldSpec)) topFoundToldUptoCard
end Rows
end Go.Proofs.YthbgghmjbaldlaaGreatDoor
