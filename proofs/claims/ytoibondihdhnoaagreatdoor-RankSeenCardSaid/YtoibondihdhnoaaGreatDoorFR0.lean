/- Texts in one: The closed facts of the law RankSeen. -/
import Derived.Test.YtoibondihdhnoaaGreatDoorRows
import Derived.ProofKit
import Derived.LaidMore
import Derived.OpenShut
import Derived.Stop.Joined
import Derived.SevenTiedAt
/-! LawJSeen: The closed facts of the law RankSeen. -/
namespace Go.Proofs.YtoibondihdhnoaaGreatDoor
open Go.ChangeShapes Go.WideShapes Go.ChangeAt Go.RowKit
set_option maxRecDepth 100000
theorem jq0 : Rows.rankSeenRow.wf (OpenSpec.ofChange Rows.rankSeenSpec) = true := by kernel_rfl
theorem jq1 : laidOutB Tryz.prog = true := by kernel_rfl
theorem jq2 : mapsRowed Tryz.prog = true := by kernel_rfl
theorem jq3 : namedTie Tryz.prog Rows.rankSeenRow.named Rows.rankSeenSpec.vars = true := by kernel_rfl
theorem jq4 : (Rows.rankSeenRow.inPlace == Tryz.prog.inPlace 4) = true := by kernel_rfl
theorem jq5 : (Rows.rankSeenRow.unfollowed == Tryz.prog.unfollowed 4) = true := by kernel_rfl
theorem jq6 : (Rows.rankSeenRow.recurses == Tryz.prog.recurses 4) = true := by kernel_rfl
theorem jq7 : (Rows.rankSeenRow.named == Tryz.prog.varsNamed 4) = true := by kernel_rfl
theorem jq8 : Tryz.prog.mayEnter = true := by kernel_rfl
theorem jq9 : (Rows.rankSeenRow.lifted == Tryz.prog.liftsFinal) = true := by kernel_rfl
theorem jq10 : (Tryz.prog.make == some Rows.rankSeenRow.make) = true := by kernel_rfl
theorem jq11 : Tryz.prog.stopsHeard = true := by kernel_rfl
theorem joined4 : joinedFacts Tryz.prog 4 Tryz.f4 Rows.rankSeenSpec Rows.rankSeenRow = true := by
  unfold joinedFacts
  repeat' (with_reducible refine Bool.and_eq_true_iff.2 ⟨?_, ?_⟩)
  all_goals (first | with_reducible exact jq0 | with_reducible exact jq1 | with_reducible exact jq2 | with_reducible exact jq3 | with_reducible exact jq4 | with_reducible exact jq5 | with_reducible exact jq6 | with_reducible exact jq7 | with_reducible exact jq8 | with_reducible exact jq9 | with_reducible exact jq10 | with_reducible exact jq11 | kernel_rfl)
end Go.Proofs.YtoibondihdhnoaaGreatDoor
