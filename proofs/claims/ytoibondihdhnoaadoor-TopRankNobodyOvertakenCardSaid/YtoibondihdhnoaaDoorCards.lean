/-
  DERIVED. GIVEN WITH THE SEED: THE CARDS: each row of YtoibondihdhnoaaDoorRows.lean that lists a variable, with what it lists TIED to the program's text (the seventh form; the later family's looks); each row that meets fmt, with fmt's text TOLD by the authors' own Lean function (tested against real Go, not proved from fmt's source: count such statements apart). THE CARD IS WHAT COUNTS. Prove the row's statement (the work); the ties are given (YtoibondihdhnoaaDoorTie.lean); close each card by the builder's one call (the guide's Derived/Test/ToyasCard.lean, 'card_holds'). Laid BY PROGRAM, IN A SANDBOX (cutbox-door.mjs). By AI agents, Wed Nov 11 2026. No macro, syntax, notation, axiom, sorry.
-/
import Derived.Test.YtoibondihdhnoaaDoorRows
import GoSem.ClaimSeven
namespace Go.Proofs.YtoibondihdhnoaaDoor
namespace Rows

/-- THE TIED CARD OF 'fiacretop.TopRankNobodyOvertaken'. -/
def topRankNobodyOvertakenCard : Claim7 := { stood := { row := topRankNobodyOvertakenRow, standIns := [], harness := (true, "2780d0c01a328438030876e504f936b25191c12fb7a2d4c5006d049b3a22d683"), looks := false }, kinds := [], alts := [], laidByText := true, laidKinds := [.data, .data, .data, .funcsDeep], laidTests := true, laidLooks := .later }
def TopRankNobodyOvertakenCardSaid : Prop := Claim7.holds Tryd.pinned (.plain (OpenSpec.ofChange topRankNobodyOvertakenSpec)) topRankNobodyOvertakenCard

/-- THE SECOND FORM's CARD OF 'fiacretop.TopRankNobodyOvertaken'. -/
def topRankNobodyOvertakenUptoCard : Claim7 := { stood := { row := topRankNobodyOvertakenUptoRow, standIns := [], harness := (true, "2780d0c01a328438030876e504f936b25191c12fb7a2d4c5006d049b3a22d683"), looks := false }, kinds := [], alts := [], laidByText := true, laidKinds := [.data, .data, .data, .funcsDeep], laidTests := true, laidLooks := .later }
def TopRankNobodyOvertakenUptoCardSaid : Prop := Claim7.holds Tryd.pinned (.plain (OpenSpec.upto topRankNobodyOvertakenSpec)) topRankNobodyOvertakenUptoCard
end Rows
end Go.Proofs.YtoibondihdhnoaaDoor
