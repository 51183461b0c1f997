/-
  DERIVED. GIVEN WITH THE SEED: THE CARDS: each row of YthbgghmjbaldlaaDoorRows.lean that lists a variable, with what it lists TIED to the program's text (the seventh form; the later family's looks); each row that meets fmt, with fmt's text TOLD by the authors' own Lean function (tested against real Go, not proved from fmt's source: count such statements apart). THE CARD IS WHAT COUNTS. Prove the row's statement (the work); the ties are given (YthbgghmjbaldlaaDoorTie.lean); close each card by the builder's one call (the guide's Derived/Test/ToyasCard.lean, 'card_holds'). Laid BY PROGRAM, IN A SANDBOX (cutbox-door.mjs). By AI agents, Wed Nov 11 2026. No macro, syntax, notation, axiom, sorry.
-/
import Derived.Test.YthbgghmjbaldlaaDoorRows
import GoSem.ClaimSeven
namespace Go.Proofs.YthbgghmjbaldlaaDoor
namespace Rows

/-- THE TIED CARD OF 'fiacrelaw09.FoundChains'. -/
def foundChainsCard : Claim7 := { stood := { row := foundChainsRow, standIns := [], harness := (true, "7b4ff528bdcd51942795d3b31bc0cc404dcef67a14409652732e069cf73ab076"), looks := false }, kinds := [], alts := [], laidByText := true, laidKinds := [.data, .data, .data], laidTests := true, laidLooks := .later }
def FoundChainsCardSaid : Prop := Claim7.holds Tryd.pinned (.plain (OpenSpec.ofChange foundChainsSpec)) foundChainsCard

/-- THE TIED CARD OF 'fiacrelaw09.FoundRewards'. -/
def foundRewardsCard : Claim7 := { stood := { row := foundRewardsRow, standIns := [], harness := (true, "7b4ff528bdcd51942795d3b31bc0cc404dcef67a14409652732e069cf73ab076"), looks := false }, kinds := [], alts := [], laidByText := true, laidKinds := [.data, .data, .data], laidTests := true, laidLooks := .later }
def FoundRewardsCardSaid : Prop := Claim7.holds Tryd.pinned (.plain (OpenSpec.ofChange foundRewardsSpec)) foundRewardsCard

/-- THE TIED CARD OF 'fiacrelaw09.FoundStates'. -/
def foundStatesCard : Claim7 := { stood := { row := foundStatesRow, standIns := [], harness := (true, "7b4ff528bdcd51942795d3b31bc0cc404dcef67a14409652732e069cf73ab076"), looks := false }, kinds := [], alts := [], laidByText := true, laidKinds := [.data, .data, .data], laidTests := true, laidLooks := .later }
def FoundStatesCardSaid : Prop := Claim7.holds Tryd.pinned (.plain (OpenSpec.ofChange foundStatesSpec)) foundStatesCard

/-- THE TIED CARD OF 'fiacrelaw09.FoundBeginnings'. -/
def foundBeginningsCard : Claim7 := { stood := { row := foundBeginningsRow, standIns := [], harness := (true, "7b4ff528bdcd51942795d3b31bc0cc404dcef67a14409652732e069cf73ab076"), looks := false }, kinds := [], alts := [], laidByText := true, laidKinds := [.data, .data, .data], laidTests := true, laidLooks := .later }
def FoundBeginningsCardSaid : Prop := Claim7.holds Tryd.pinned (.plain (OpenSpec.ofChange foundBeginningsSpec)) foundBeginningsCard

/-- THE TIED CARD OF 'fiacrelaw09.FoundMarks'. -/
def foundMarksCard : Claim7 := { stood := { row := foundMarksRow, standIns := [], harness := (true, "7b4ff528bdcd51942795d3b31bc0cc404dcef67a14409652732e069cf73ab076"), looks := false }, kinds := [], alts := [], laidByText := true, laidKinds := [.data, .data, .data], laidTests := true, laidLooks := .later }
def FoundMarksCardSaid : Prop := Claim7.holds Tryd.pinned (.plain (OpenSpec.ofChange foundMarksSpec)) foundMarksCard

/-- THE TIED CARD OF 'fiacrelaw09.FoundFewerMarks'. -/
def foundFewerMarksCard : Claim7 := { stood := { row := foundFewerMarksRow, standIns := [], harness := (true, "7b4ff528bdcd51942795d3b31bc0cc404dcef67a14409652732e069cf73ab076"), looks := false }, kinds := [], alts := [], laidByText := true, laidKinds := [.data, .data, .data], laidTests := true, laidLooks := .later }
def FoundFewerMarksCardSaid : Prop := Claim7.holds Tryd.pinned (.plain (OpenSpec.ofChange foundFewerMarksSpec)) foundFewerMarksCard

/-- THE TIED CARD OF 'fiacrelaw09.FoundCandidates'. -/
def foundCandidatesCard : Claim7 := { stood := { row := foundCandidatesRow, standIns := [], harness := (true, "7b4ff528bdcd51942795d3b31bc0cc404dcef67a14409652732e069cf73ab076"), looks := false }, kinds := [], alts := [], laidByText := true, laidKinds := [.data, .data, .data], laidTests := true, laidLooks := .later }
def FoundCandidatesCardSaid : Prop := Claim7.holds Tryd.pinned (.plain (OpenSpec.ofChange foundCandidatesSpec)) foundCandidatesCard

/-- THE TIED CARD OF 'fiacrelaw09.FoundOverdues'. -/
def foundOverduesCard : Claim7 := { stood := { row := foundOverduesRow, standIns := [], harness := (true, "7b4ff528bdcd51942795d3b31bc0cc404dcef67a14409652732e069cf73ab076"), looks := false }, kinds := [], alts := [], laidByText := true, laidKinds := [.data, .data, .data], laidTests := true, laidLooks := .later }
def FoundOverduesCardSaid : Prop := Claim7.holds Tryd.pinned (.plain (OpenSpec.ofChange foundOverduesSpec)) foundOverduesCard

/-- THE TIED CARD OF 'fiacrelaw09.FoundDone'. -/
def foundDoneCard : Claim7 := { stood := { row := foundDoneRow, standIns := [], harness := (true, "7b4ff528bdcd51942795d3b31bc0cc404dcef67a14409652732e069cf73ab076"), looks := false }, kinds := [], alts := [], laidByText := true, laidKinds := [.data, .data, .data], laidTests := true, laidLooks := .later }
def FoundDoneCardSaid : Prop := Claim7.holds Tryd.pinned (.plain (OpenSpec.ofChange foundDoneSpec)) foundDoneCard

/-- THE TIED CARD OF 'fiacrelaw09.FoundNoMore'. -/
def foundNoMoreCard : Claim7 := { stood := { row := foundNoMoreRow, standIns := [], harness := (true, "7b4ff528bdcd51942795d3b31bc0cc404dcef67a14409652732e069cf73ab076"), looks := false }, kinds := [], alts := [], laidByText := true, laidKinds := [.data, .data, .data], laidTests := true, laidLooks := .later }
def FoundNoMoreCardSaid : Prop := Claim7.holds Tryd.pinned (.plain (OpenSpec.ofChange foundNoMoreSpec)) foundNoMoreCard

/-- THE SECOND FORM's CARD OF 'fiacrelaw09.FoundChains'. -/
def foundChainsUptoCard : Claim7 := { stood := { row := foundChainsUptoRow, standIns := [], harness := (true, "7b4ff528bdcd51942795d3b31bc0cc404dcef67a14409652732e069cf73ab076"), looks := false }, kinds := [], alts := [], laidByText := true, laidKinds := [.data, .data, .data], laidTests := true, laidLooks := .later }
def FoundChainsUptoCardSaid : Prop := Claim7.holds Tryd.pinned (.plain (OpenSpec.upto foundChainsSpec)) foundChainsUptoCard

/-- THE SECOND FORM's CARD OF 'fiacrelaw09.FoundRewards'. -/
def foundRewardsUptoCard : Claim7 := { stood := { row := foundRewardsUptoRow, standIns := [], harness := (true, "7b4ff528bdcd51942795d3b31bc0cc404dcef67a14409652732e069cf73ab076"), looks := false }, kinds := [], alts := [], laidByText := true, laidKinds := [.data, .data, .data], laidTests := true, laidLooks := .later }
def FoundRewardsUptoCardSaid : Prop := Claim7.holds Tryd.pinned (.plain (OpenSpec.upto foundRewardsSpec)) foundRewardsUptoCard

/-- THE SECOND FORM's CARD OF 'fiacrelaw09.FoundStates'. -/
def foundStatesUptoCard : Claim7 := { stood := { row := foundStatesUptoRow, standIns := [], harness := (true, "7b4ff528bdcd51942795d3b31bc0cc404dcef67a14409652732e069cf73ab076"), looks := false }, kinds := [], alts := [], laidByText := true, laidKinds := [.data, .data, .data], laidTests := true, laidLooks := .later }
def FoundStatesUptoCardSaid : Prop := Claim7.holds Tryd.pinned (.plain (OpenSpec.upto foundStatesSpec)) foundStatesUptoCard

/-- THE SECOND FORM's CARD OF 'fiacrelaw09.FoundBeginnings'. -/
def foundBeginningsUptoCard : Claim7 := { stood := { row := foundBeginningsUptoRow, standIns := [], harness := (true, "7b4ff528bdcd51942795d3b31bc0cc404dcef67a14409652732e069cf73ab076"), looks := false }, kinds := [], alts := [], laidByText := true, laidKinds := [.data, .data, .data], laidTests := true, laidLooks := .later }
def FoundBeginningsUptoCardSaid : Prop := Claim7.holds Tryd.pinned (.plain (OpenSpec.upto foundBeginningsSpec)) foundBeginningsUptoCard

/-- THE SECOND FORM's CARD OF 'fiacrelaw09.FoundMarks'. -/
def foundMarksUptoCard : Claim7 := { stood := { row := foundMarksUptoRow, standIns := [], harness := (true, "7b4ff528bdcd51942795d3b31bc0cc404dcef67a14409652732e069cf73ab076"), looks := false }, kinds := [], alts := [], laidByText := true, laidKinds := [.data, .data, .data], laidTests := true, laidLooks := .later }
def FoundMarksUptoCardSaid : Prop := Claim7.holds Tryd.pinned (.plain (OpenSpec.upto foundMarksSpec)) foundMarksUptoCard

/-- THE SECOND FORM's CARD OF 'fiacrelaw09.FoundFewerMarks'. -/
def foundFewerMarksUptoCard : Claim7 := { stood := { row := foundFewerMarksUptoRow, standIns := [], harness := (true, "7b4ff528bdcd51942795d3b31bc0cc404dcef67a14409652732e069cf73ab076"), looks := false }, kinds := [], alts := [], laidByText := true, laidKinds := [.data, .data, .data], laidTests := true, laidLooks := .later }
def FoundFewerMarksUptoCardSaid : Prop := Claim7.holds Tryd.pinned (.plain (OpenSpec.upto foundFewerMarksSpec)) foundFewerMarksUptoCard

/-- THE SECOND FORM's CARD OF 'fiacrelaw09.FoundCandidates'. -/
def foundCandidatesUptoCard : Claim7 := { stood := { row := foundCandidatesUptoRow, standIns := [], harness := (true, "7b4ff528bdcd51942795d3b31bc0cc404dcef67a14409652732e069cf73ab076"), looks := false }, kinds := [], alts := [], laidByText := true, laidKinds := [.data, .data, .data], laidTests := true, laidLooks := .later }
def FoundCandidatesUptoCardSaid : Prop := Claim7.holds Tryd.pinned (.plain (OpenSpec.upto foundCandidatesSpec)) foundCandidatesUptoCard

/-- THE SECOND FORM's CARD OF 'fiacrelaw09.FoundOverdues'. -/
def foundOverduesUptoCard : Claim7 := { stood := { row := foundOverduesUptoRow, standIns := [], harness := (true, "7b4ff528bdcd51942795d3b31bc0cc404dcef67a14409652732e069cf73ab076"), looks := false }, kinds := [], alts := [], laidByText := true, laidKinds := [.data, .data, .data], laidTests := true, laidLooks := .later }
def FoundOverduesUptoCardSaid : Prop := Claim7.holds Tryd.pinned (.plain (OpenSpec.upto foundOverduesSpec)) foundOverduesUptoCard

/-- THE SECOND FORM's CARD OF 'fiacrelaw09.FoundDone'. -/
def foundDoneUptoCard : Claim7 := { stood := { row := foundDoneUptoRow, standIns := [], harness := (true, "7b4ff528bdcd51942795d3b31bc0cc404dcef67a14409652732e069cf73ab076"), looks := false }, kinds := [], alts := [], laidByText := true, laidKinds := [.data, .data, .data], laidTests := true, laidLooks := .later }
def FoundDoneUptoCardSaid : Prop := Claim7.holds Tryd.pinned (.plain (OpenSpec.upto foundDoneSpec)) foundDoneUptoCard

/-- THE SECOND FORM's CARD OF 'fiacrelaw09.FoundNoMore'. -/
def foundNoMoreUptoCard : Claim7 := { stood := { row := foundNoMoreUptoRow, standIns := [], harness := (true, "7b4ff528bdcd51942795d3b31bc0cc404dcef67a14409652732e069cf73ab076"), looks := false }, kinds := [], alts := [], laidByText := true, laidKinds := [.data, .data, .data], laidTests := true, laidLooks := .later }
def FoundNoMoreUptoCardSaid : Prop := Claim7.holds Tryd.pinned (.plain (OpenSpec.upto foundNoMoreSpec)) foundNoMoreUptoCard
end Rows
end Go.Proofs.YthbgghmjbaldlaaDoor
