/-
  DERIVED. GIVEN WITH THE SEED: THE CARDS: each row of YtoibondihdhnoaaGreatDoorRows.lean that lists a variable, with what it lists TIED to the program's text (the seventh form; the later family's looks); each row that meets fmt, with fmt's text TOLD by the authors' own Lean function (tested against real Go, not proved from fmt's source: count such statements apart). THE CARD IS WHAT COUNTS. Prove the row's statement (the work); the ties are given (YtoibondihdhnoaaGreatDoorTie.lean); close each card by the builder's one call (the guide's Derived/Test/ToyasCard.lean, 'card_holds'). Laid BY PROGRAM, IN A SANDBOX (cutbox-door.mjs). By AI agents, Wed Nov 11 2026. No macro, syntax, notation, axiom, sorry.
-/
import Derived.Test.YtoibondihdhnoaaGreatDoorRows
import GoSem.ClaimSeven
namespace Go.Proofs.YtoibondihdhnoaaGreatDoor
namespace Rows

/-- THE TIED CARD OF 'fiacrelaw04.RankReplays'. -/
def rankReplaysCard : Claim7 := { stood := { row := rankReplaysRow, standIns := [], harness := (true, "ecad029d21d19cc6fe7d2b36364c3ab17364733eede743befca16397c2b4febd"), looks := true }, kinds := [], alts := [], laidByText := true, laidKinds := [.data, .data, .data, .data, .sentinel, .sentinel, .funcsDeep, .pinned], laidTests := true, laidLooks := .later }
def RankReplaysCardSaid : Prop := Claim7.holds Tryz.pinned (.plain (OpenSpec.ofChange rankReplaysSpec)) rankReplaysCard

/-- THE TIED CARD OF 'fiacrelaw04.RankSeen'. -/
def rankSeenCard : Claim7 := { stood := { row := rankSeenRow, standIns := [], harness := (true, "ecad029d21d19cc6fe7d2b36364c3ab17364733eede743befca16397c2b4febd"), looks := true }, kinds := [], alts := [], laidByText := true, laidKinds := [.data, .data, .data, .data, .sentinel, .sentinel, .funcsDeep, .pinned], laidTests := true, laidLooks := .later }
def RankSeenCardSaid : Prop := Claim7.holds Tryz.pinned (.plain (OpenSpec.ofChange rankSeenSpec)) rankSeenCard

/-- THE TIED CARD OF 'fiacrelaw04.RankOrder'. -/
def rankOrderCard : Claim7 := { stood := { row := rankOrderRow, standIns := [], harness := (true, "ecad029d21d19cc6fe7d2b36364c3ab17364733eede743befca16397c2b4febd"), looks := true }, kinds := [], alts := [], laidByText := true, laidKinds := [.data, .data, .data, .data, .sentinel, .sentinel, .funcsDeep, .pinned], laidTests := true, laidLooks := .later }
def RankOrderCardSaid : Prop := Claim7.holds Tryz.pinned (.plain (OpenSpec.ofChange rankOrderSpec)) rankOrderCard

/-- THE TIED CARD OF 'fiacrelaw04.RankFirst'. -/
def rankFirstCard : Claim7 := { stood := { row := rankFirstRow, standIns := [], harness := (true, "ecad029d21d19cc6fe7d2b36364c3ab17364733eede743befca16397c2b4febd"), looks := true }, kinds := [], alts := [], laidByText := true, laidKinds := [.data, .data, .data, .data, .sentinel, .sentinel, .funcsDeep, .pinned], laidTests := true, laidLooks := .later }
def RankFirstCardSaid : Prop := Claim7.holds Tryz.pinned (.plain (OpenSpec.ofChange rankFirstSpec)) rankFirstCard

/-- THE TIED CARD OF 'fiacrelaw04.RankRulesRight'. -/
def rankRulesRightCard : Claim7 := { stood := { row := rankRulesRightRow, standIns := [], harness := (true, "ecad029d21d19cc6fe7d2b36364c3ab17364733eede743befca16397c2b4febd"), looks := true }, kinds := [], alts := [], laidByText := true, laidKinds := [.data, .data, .data, .data, .sentinel, .sentinel, .funcsDeep, .pinned], laidTests := true, laidLooks := .later }
def RankRulesRightCardSaid : Prop := Claim7.holds Tryz.pinned (.plain (OpenSpec.ofChange rankRulesRightSpec)) rankRulesRightCard

/-- THE TIED CARD OF 'fiacrelaw04.RankStays'. -/
def rankStaysCard : Claim7 := { stood := { row := rankStaysRow, standIns := [], harness := (true, "ecad029d21d19cc6fe7d2b36364c3ab17364733eede743befca16397c2b4febd"), looks := true }, kinds := [], alts := [], laidByText := true, laidKinds := [.data, .data, .data, .data, .sentinel, .sentinel, .funcsDeep, .pinned], laidTests := true, laidLooks := .later }
def RankStaysCardSaid : Prop := Claim7.holds Tryz.pinned (.plain (OpenSpec.ofChange rankStaysSpec)) rankStaysCard

/-- THE TIED CARD OF 'fiacrelaw04.RankEventTexts'. -/
def rankEventTextsCard : Claim7 := { stood := { row := rankEventTextsRow, standIns := [], harness := (true, "ecad029d21d19cc6fe7d2b36364c3ab17364733eede743befca16397c2b4febd"), looks := true }, kinds := [], alts := [], laidByText := true, laidKinds := [.data, .data, .data, .data, .sentinel, .sentinel, .funcsDeep, .pinned], laidTests := true, laidLooks := .later }
def RankEventTextsCardSaid : Prop := Claim7.holds Tryz.pinned (.plain (OpenSpec.ofChange rankEventTextsSpec)) rankEventTextsCard

/-- THE TIED CARD OF 'fiacrelaw04.RankStates'. -/
def rankStatesCard : Claim7 := { stood := { row := rankStatesRow, standIns := [], harness := (true, "ecad029d21d19cc6fe7d2b36364c3ab17364733eede743befca16397c2b4febd"), looks := true }, kinds := [], alts := [], laidByText := true, laidKinds := [.data, .data, .data, .data, .sentinel, .sentinel, .funcsDeep, .pinned], laidTests := true, laidLooks := .later }
def RankStatesCardSaid : Prop := Claim7.holds Tryz.pinned (.plain (OpenSpec.ofChange rankStatesSpec)) rankStatesCard

/-- THE TIED CARD OF 'fiacrelaw04.RankFair'. -/
def rankFairCard : Claim7 := { stood := { row := rankFairRow, standIns := [], harness := (true, "ecad029d21d19cc6fe7d2b36364c3ab17364733eede743befca16397c2b4febd"), looks := true }, kinds := [], alts := [], laidByText := true, laidKinds := [.data, .data, .data, .data, .sentinel, .sentinel, .funcsDeep, .pinned], laidTests := true, laidLooks := .later }
def RankFairCardSaid : Prop := Claim7.holds Tryz.pinned (.plain (OpenSpec.ofChange rankFairSpec)) rankFairCard

/-- THE TIED CARD OF 'fiacrelaw04.RankStateTexts'. -/
def rankStateTextsCard : Claim7 := { stood := { row := rankStateTextsRow, standIns := [], harness := (true, "ecad029d21d19cc6fe7d2b36364c3ab17364733eede743befca16397c2b4febd"), looks := true }, kinds := [], alts := [], laidByText := true, laidKinds := [.data, .data, .data, .data, .sentinel, .sentinel, .funcsDeep, .pinned], laidTests := true, laidLooks := .later }
def RankStateTextsCardSaid : Prop := Claim7.holds Tryz.pinned (.plain (OpenSpec.ofChange rankStateTextsSpec)) rankStateTextsCard

/-- THE TIED CARD OF 'fiacrelaw04.RankApplies'. -/
def rankAppliesCard : Claim7 := { stood := { row := rankAppliesRow, standIns := [], harness := (true, "ecad029d21d19cc6fe7d2b36364c3ab17364733eede743befca16397c2b4febd"), looks := true }, kinds := [], alts := [], laidByText := true, laidKinds := [.data, .data, .data, .data, .sentinel, .sentinel, .funcsDeep, .pinned], laidTests := true, laidLooks := .later }
def RankAppliesCardSaid : Prop := Claim7.holds Tryz.pinned (.plain (OpenSpec.ofChange rankAppliesSpec)) rankAppliesCard

/-- THE TIED CARD OF 'fiacrelaw04.RankKept'. -/
def rankKeptCard : Claim7 := { stood := { row := rankKeptRow, standIns := [], harness := (true, "ecad029d21d19cc6fe7d2b36364c3ab17364733eede743befca16397c2b4febd"), looks := true }, kinds := [], alts := [], laidByText := true, laidKinds := [.data, .data, .data, .data, .sentinel, .sentinel, .funcsDeep, .pinned], laidTests := true, laidLooks := .later }
def RankKeptCardSaid : Prop := Claim7.holds Tryz.pinned (.plain (OpenSpec.ofChange rankKeptSpec)) rankKeptCard

/-- THE TIED CARD OF 'fiacrelaw04.RankPossible'. -/
def rankPossibleCard : Claim7 := { stood := { row := rankPossibleRow, standIns := [], harness := (true, "ecad029d21d19cc6fe7d2b36364c3ab17364733eede743befca16397c2b4febd"), looks := true }, kinds := [], alts := [], laidByText := true, laidKinds := [.data, .data, .data, .data, .sentinel, .sentinel, .funcsDeep, .pinned], laidTests := true, laidLooks := .later }
def RankPossibleCardSaid : Prop := Claim7.holds Tryz.pinned (.plain (OpenSpec.ofChange rankPossibleSpec)) rankPossibleCard

/-- THE TIED CARD OF 'fiacrelaw04.RankPlaces'. -/
def rankPlacesCard : Claim7 := { stood := { row := rankPlacesRow, standIns := [], harness := (true, "ecad029d21d19cc6fe7d2b36364c3ab17364733eede743befca16397c2b4febd"), looks := true }, kinds := [], alts := [], laidByText := true, laidKinds := [.data, .data, .data, .data, .sentinel, .sentinel, .funcsDeep, .pinned], laidTests := true, laidLooks := .later }
def RankPlacesCardSaid : Prop := Claim7.holds Tryz.pinned (.plain (OpenSpec.ofChange rankPlacesSpec)) rankPlacesCard

/-- THE TIED CARD OF 'fiacretop.TopRankTold'. -/
def topRankToldCard : Claim7 := { stood := { row := topRankToldRow, standIns := [], harness := (true, "ecad029d21d19cc6fe7d2b36364c3ab17364733eede743befca16397c2b4febd"), looks := true }, kinds := [], alts := [], laidByText := true, laidKinds := [.data, .data, .data, .data, .sentinel, .sentinel, .funcsDeep, .pinned], laidTests := true, laidLooks := .later }
def TopRankToldCardSaid : Prop := Claim7.holds Tryz.pinned (.plain (OpenSpec.ofChange topRankToldSpec)) topRankToldCard

/-- THE SECOND FORM's CARD OF 'fiacrelaw04.RankReplays'. -/
def rankReplaysUptoCard : Claim7 := { stood := { row := rankReplaysUptoRow, standIns := [], harness := (true, "ecad029d21d19cc6fe7d2b36364c3ab17364733eede743befca16397c2b4febd"), looks := true }, kinds := [], alts := [], laidByText := true, laidKinds := [.data, .data, .data, .data, .sentinel, .sentinel, .funcsDeep, .pinned], laidTests := true, laidLooks := .later }
def RankReplaysUptoCardSaid : Prop := Claim7.holds Tryz.pinned (.plain (OpenSpec.upto rankReplaysSpec)) rankReplaysUptoCard

/-- THE SECOND FORM's CARD OF 'fiacrelaw04.RankSeen'. -/
def rankSeenUptoCard : Claim7 := { stood := { row := rankSeenUptoRow, standIns := [], harness := (true, "ecad029d21d19cc6fe7d2b36364c3ab17364733eede743befca16397c2b4febd"), looks := true }, kinds := [], alts := [], laidByText := true, laidKinds := [.data, .data, .data, .data, .sentinel, .sentinel, .funcsDeep, .pinned], laidTests := true, laidLooks := .later }
def RankSeenUptoCardSaid : Prop := Claim7.holds Tryz.pinned (.plain (OpenSpec.upto rankSeenSpec)) rankSeenUptoCard

/-- THE SECOND FORM's CARD OF 'fiacrelaw04.RankOrder'. -/
def rankOrderUptoCard : Claim7 := { stood := { row := rankOrderUptoRow, standIns := [], harness := (true, "ecad029d21d19cc6fe7d2b36364c3ab17364733eede743befca16397c2b4febd"), looks := true }, kinds := [], alts := [], laidByText := true, laidKinds := [.data, .data, .data, .data, .sentinel, .sentinel, .funcsDeep, .pinned], laidTests := true, laidLooks := .later }
def RankOrderUptoCardSaid : Prop := Claim7.holds Tryz.pinned (.plain (OpenSpec.upto rankOrderSpec)) rankOrderUptoCard

/-- THE SECOND FORM's CARD OF 'fiacrelaw04.RankFirst'. -/
def rankFirstUptoCard : Claim7 := { stood := { row := rankFirstUptoRow, standIns := [], harness := (true, "ecad029d21d19cc6fe7d2b36364c3ab17364733eede743befca16397c2b4febd"), looks := true }, kinds := [], alts := [], laidByText := true, laidKinds := [.data, .data, .data, .data, .sentinel, .sentinel, .funcsDeep, .pinned], laidTests := true, laidLooks := .later }
def RankFirstUptoCardSaid : Prop := Claim7.holds Tryz.pinned (.plain (OpenSpec.upto rankFirstSpec)) rankFirstUptoCard

/-- THE SECOND FORM's CARD OF 'fiacrelaw04.RankRulesRight'. -/
def rankRulesRightUptoCard : Claim7 := { stood := { row := rankRulesRightUptoRow, standIns := [], harness := (true, "ecad029d21d19cc6fe7d2b36364c3ab17364733eede743befca16397c2b4febd"), looks := true }, kinds := [], alts := [], laidByText := true, laidKinds := [.data, .data, .data, .data, .sentinel, .sentinel, .funcsDeep, .pinned], laidTests := true, laidLooks := .later }
def RankRulesRightUptoCardSaid : Prop := Claim7.holds Tryz.pinned (.plain (OpenSpec.upto rankRulesRightSpec)) rankRulesRightUptoCard

/-- THE SECOND FORM's CARD OF 'fiacrelaw04.RankStays'. -/
def rankStaysUptoCard : Claim7 := { stood := { row := rankStaysUptoRow, standIns := [], harness := (true, "ecad029d21d19cc6fe7d2b36364c3ab17364733eede743befca16397c2b4febd"), looks := true }, kinds := [], alts := [], laidByText := true, laidKinds := [.data, .data, .data, .data, .sentinel, .sentinel, .funcsDeep, .pinned], laidTests := true, laidLooks := .later }
def RankStaysUptoCardSaid : Prop := Claim7.holds Tryz.pinned (.plain (OpenSpec.upto rankStaysSpec)) rankStaysUptoCard

/-- THE SECOND FORM's CARD OF 'fiacrelaw04.RankEventTexts'. -/
def rankEventTextsUptoCard : Claim7 := { stood := { row := rankEventTextsUptoRow, standIns := [], harness := (true, "ecad029d21d19cc6fe7d2b36364c3ab17364733eede743befca16397c2b4febd"), looks := true }, kinds := [], alts := [], laidByText := true, laidKinds := [.data, .data, .data, .data, .sentinel, .sentinel, .funcsDeep, .pinned], laidTests := true, laidLooks := .later }
def RankEventTextsUptoCardSaid : Prop := Claim7.holds Tryz.pinned (.plain (OpenSpec.upto rankEventTextsSpec)) rankEventTextsUptoCard

/-- THE SECOND FORM's CARD OF 'fiacrelaw04.RankStates'. -/
def rankStatesUptoCard : Claim7 := { stood := { row := rankStatesUptoRow, standIns := [], harness := (true, "ecad029d21d19cc6fe7d2b36364c3ab17364733eede743befca16397c2b4febd"), looks := true }, kinds := [], alts := [], laidByText := true, laidKinds := [.data, .data, .data, .data, .sentinel, .sentinel, .funcsDeep, .pinned], laidTests := true, laidLooks := .later }
def RankStatesUptoCardSaid : Prop := Claim7.holds Tryz.pinned (.plain (OpenSpec.upto rankStatesSpec)) rankStatesUptoCard

/-- THE SECOND FORM's CARD OF 'fiacrelaw04.RankFair'. -/
def rankFairUptoCard : Claim7 := { stood := { row := rankFairUptoRow, standIns := [], harness := (true, "ecad029d21d19cc6fe7d2b36364c3ab17364733eede743befca16397c2b4febd"), looks := true }, kinds := [], alts := [], laidByText := true, laidKinds := [.data, .data, .data, .data, .sentinel, .sentinel, .funcsDeep, .pinned], laidTests := true, laidLooks := .later }
def RankFairUptoCardSaid : Prop := Claim7.holds Tryz.pinned (.plain (OpenSpec.upto rankFairSpec)) rankFairUptoCard

/-- THE SECOND FORM's CARD OF 'fiacrelaw04.RankStateTexts'. -/
def rankStateTextsUptoCard : Claim7 := { stood := { row := rankStateTextsUptoRow, standIns := [], harness := (true, "ecad029d21d19cc6fe7d2b36364c3ab17364733eede743befca16397c2b4febd"), looks := true }, kinds := [], alts := [], laidByText := true, laidKinds := [.data, .data, .data, .data, .sentinel, .sentinel, .funcsDeep, .pinned], laidTests := true, laidLooks := .later }
def RankStateTextsUptoCardSaid : Prop := Claim7.holds Tryz.pinned (.plain (OpenSpec.upto rankStateTextsSpec)) rankStateTextsUptoCard

/-- THE SECOND FORM's CARD OF 'fiacrelaw04.RankApplies'. -/
def rankAppliesUptoCard : Claim7 := { stood := { row := rankAppliesUptoRow, standIns := [], harness := (true, "ecad029d21d19cc6fe7d2b36364c3ab17364733eede743befca16397c2b4febd"), looks := true }, kinds := [], alts := [], laidByText := true, laidKinds := [.data, .data, .data, .data, .sentinel, .sentinel, .funcsDeep, .pinned], laidTests := true, laidLooks := .later }
def RankAppliesUptoCardSaid : Prop := Claim7.holds Tryz.pinned (.plain (OpenSpec.upto rankAppliesSpec)) rankAppliesUptoCard

/-- THE SECOND FORM's CARD OF 'fiacrelaw04.RankKept'. -/
def rankKeptUptoCard : Claim7 := { stood := { row := rankKeptUptoRow, standIns := [], harness := (true, "ecad029d21d19cc6fe7d2b36364c3ab17364733eede743befca16397c2b4febd"), looks := true }, kinds := [], alts := [], laidByText := true, laidKinds := [.data, .data, .data, .data, .sentinel, .sentinel, .funcsDeep, .pinned], laidTests := true, laidLooks := .later }
def RankKeptUptoCardSaid : Prop := Claim7.holds Tryz.pinned (.plain (OpenSpec.upto rankKeptSpec)) rankKeptUptoCard

/-- THE SECOND FORM's CARD OF 'fiacrelaw04.RankPossible'. -/
def rankPossibleUptoCard : Claim7 := { stood := { row := rankPossibleUptoRow, standIns := [], harness := (true, "ecad029d21d19cc6fe7d2b36364c3ab17364733eede743befca16397c2b4febd"), looks := true }, kinds := [], alts := [], laidByText := true, laidKinds := [.data, .data, .data, .data, .sentinel, .sentinel, .funcsDeep, .pinned], laidTests := true, laidLooks := .later }
def RankPossibleUptoCardSaid : Prop := Claim7.holds Tryz.pinned (.plain (OpenSpec.upto rankPossibleSpec)) rankPossibleUptoCard

/-- THE SECOND FORM's CARD OF 'fiacrelaw04.RankPlaces'. -/
def rankPlacesUptoCard : Claim7 := { stood := { row := rankPlacesUptoRow, standIns := [], harness := (true, "ecad029d21d19cc6fe7d2b36364c3ab17364733eede743befca16397c2b4febd"), looks := true }, kinds := [], alts := [], laidByText := true, laidKinds := [.data, .data, .data, .data, .sentinel, .sentinel, .funcsDeep, .pinned], laidTests := true, laidLooks := .later }
def RankPlacesUptoCardSaid : Prop := Claim7.holds Tryz.pinned (.plain (OpenSpec.upto rankPlacesSpec)) rankPlacesUptoCard

/-- THE SECOND FORM's CARD OF 'fiacretop.TopRankTold'. -/
def topRankToldUptoCard : Claim7 := { stood := { row := topRankToldUptoRow, standIns := [], harness := (true, "ecad029d21d19cc6fe7d2b36364c3ab17364733eede743befca16397c2b4febd"), looks := true }, kinds := [], alts := [], laidByText := true, laidKinds := [.data, .data, .data, .data, .sentinel, .sentinel, .funcsDeep, .pinned], laidTests := true, laidLooks := .later }
def TopRankToldUptoCardSaid : Prop := Claim7.holds Tryz.pinned (.plain (OpenSpec.upto topRankToldSpec)) topRankToldUptoCard
end Rows
end Go.Proofs.YtoibondihdhnoaaGreatDoor
