/- Texts in one: The closed facts of the law RankEventTexts. -/
import Derived.Test.YtoibondihdhnoaaGreatDoorRows
import Derived.ProofKit
import Derived.LaidMore
import Derived.OpenShut
import Derived.Stop.Joined
import Derived.SevenTiedAt
/-! LawJEventTexts: The closed facts of the law RankEventTexts. -/
namespace Go.Proofs.YtoibondihdhnoaaGreatDoor
open Go.ChangeShapes Go.WideShapes Go.ChangeAt Go.RowKit
set_option maxRecDepth 100000
theorem jq0 : Rows.rankEventTextsRow.wf (OpenSpec.ofChange Rows.rankEventTextsSpec) = true := by kernel_rfl
theorem jq1 : laidOutB Tryz.prog = true := by kernel_rfl
theorem jq2 : mapsRowed Tryz.prog = true := by kernel_rfl
theorem jq3 : namedTie Tryz.prog Rows.rankEventTextsRow.named Rows.rankEventTextsSpec.vars = true := by kernel_rfl
theorem jq4 : (Rows.rankEventTextsRow.inPlace == Tryz.prog.inPlace 9) = true := by kernel_rfl
theorem jq5 : (Rows.rankEventTextsRow.unfollowed == Tryz.prog.unfollowed 9) = true := by kernel_rfl
theorem jq6 : (Rows.rankEventTextsRow.recurses == Tryz.prog.recurses 9) = true := by kernel_rfl
theorem jq7 : (Rows.rankEventTextsRow.named == Tryz.prog.varsNamed 9) = true := by kernel_rfl
theorem jq8 : Tryz.prog.mayEnter = true := by kernel_rfl
theorem jq9 : (Rows.rankEventTextsRow.lifted == Tryz.prog.liftsFinal) = true := by kernel_rfl
theorem jq10 : (Tryz.prog.make == some Rows.rankEventTextsRow.make) = true := by kernel_rfl
theorem jq11 : Tryz.prog.stopsHeard = true := by kernel_rfl
theorem joined9 : joinedFacts Tryz.prog 9 Tryz.f9 Rows.rankEventTextsSpec Rows.rankEventTextsRow = true := by
  unfold joinedFacts
  repeat' (with_reducible refine Bool.and_eq_true_iff.2 ⟨?_, ?_⟩)
  all_goals (first | with_reducible exact jq0 | with_reducible exact jq1 | with_reducible exact jq2 | with_reducible exact jq3 | with_reducible exact jq4 | with_reducible exact jq5 | with_reducible exact jq6 | with_reducible exact jq7 | with_reducible exact jq8 | with_reducible exact jq9 | with_reducible exact jq10 | with_reducible exact jq11 | kernel_rfl)
end Go.Proofs.YtoibondihdhnoaaGreatDoor
