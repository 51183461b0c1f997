/- Texts in one: The closed facts of the law RankStates. -/
import Derived.Test.YtoibondihdhnoaaGreatDoorRows
import Derived.ProofKit
import Derived.LaidMore
import Derived.OpenShut
import Derived.Stop.Joined
import Derived.SevenTiedAt
namespace Go.Proofs.YtoibondihdhnoaaGreatDoor
open Go.ChangeShapes Go.WideShapes Go.ChangeAt Go.RowKit
set_option maxRecDepth 100000
theorem jq0 : Rows.rankStatesRow.wf (OpenSpec.ofChange Rows.rankStatesSpec) = true := by kernel_rfl
theorem jq1 : laidOutB Tryz.prog = true := by kernel_rfl
theorem jq2 : mapsRowed Tryz.prog = true := by kernel_rfl
theorem jq3 : namedTie Tryz.prog Rows.rankStatesRow.named Rows.rankStatesSpec.vars = true := by kernel_rfl
theorem jq4 : (Rows.rankStatesRow.inPlace == Tryz.prog.inPlace 10) = true := by kernel_rfl
theorem jq5 : (Rows.rankStatesRow.unfollowed == Tryz.prog.unfollowed 10) = true := by kernel_rfl
theorem jq6 : (Rows.rankStatesRow.recurses == Tryz.prog.recurses 10) = true := by kernel_rfl
theorem jq7 : (Rows.rankStatesRow.named == Tryz.prog.varsNamed 10) = true := by kernel_rfl
theorem jq8 : Tryz.prog.mayEnter = true := by kernel_rfl
theorem jq9 : (Rows.rankStatesRow.lifted == Tryz.prog.liftsFinal) = true := by kernel_rfl
theorem jq10 : (Tryz.prog.make == some Rows.rankStatesRow.make) = true := by kernel_rfl
theorem jq11 : Tryz.prog.stopsHeard = true := by kernel_rfl
theorem joined10 : joinedFacts Tryz.prog 10 Tryz.f10 Rows.rankStatesSpec Rows.rankStatesRow = true := by
 unfold joinedFacts
 repeat' (with_reducible refine Bool.and_eq_true_iff.2 ⟨?_, ?_⟩)
 all_goals (first | with_reducible exact jq0 | with_reducible exact jq1 | with_reducible exact jq2 | with_reducible exact jq3 | with_reducible exact jq4 | with_reducible exact jq5 | with_reducible exact jq6 | with_reducible exact jq7 | with_reducible exact jq8 | with_reducible exact jq9 | with_reducible exact jq10 | with_reducible exact jq11 | kernel_rfl)
end Go.Proofs.YtoibondihdhnoaaGreatDoor
