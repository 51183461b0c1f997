/- Texts in one: The closed facts of the law RankPossible. -/
import Derived.Test.YtoibondihdhnoaaGreatDoorRows
import Derived.ProofKit
import Derived.LaidMore
import Derived.OpenShut
import Derived.Stop.Joined
import Derived.SevenTiedAt
namespace Go.Proofs.YtoibondihdhnoaaGreatDoor
open Go.ChangeShapes Go.WideShapes Go.ChangeAt Go.RowKit
set_option maxRecDepth 100000
theorem jq0:Rows.rankPossibleRow.wf (OpenSpec.ofChange Rows.rankPossibleSpec)=true:=by kernel_rfl
theorem jq1:laidOutB Tryz.prog=true:=by kernel_rfl
theorem jq2:mapsRowed Tryz.prog=true:=by kernel_rfl
theorem jq3:namedTie Tryz.prog Rows.rankPossibleRow.named Rows.rankPossibleSpec.vars=true:=by kernel_rfl
theorem jq4:(Rows.rankPossibleRow.inPlace == Tryz.prog.inPlace 15)=true:=by kernel_rfl
theorem jq5:(Rows.rankPossibleRow.unfollowed == Tryz.prog.unfollowed 15)=true:=by kernel_rfl
theorem jq6:(Rows.rankPossibleRow.recurses == Tryz.prog.recurses 15)=true:=by kernel_rfl
theorem jq7:(Rows.rankPossibleRow.named == Tryz.prog.varsNamed 15)=true:=by kernel_rfl
theorem jq8:Tryz.prog.mayEnter=true:=by kernel_rfl
theorem jq9:(Rows.rankPossibleRow.lifted == Tryz.prog.liftsFinal)=true:=by kernel_rfl
theorem d3q:(Tryz.prog.make == some Rows.rankPossibleRow.make)=true:=by kernel_rfl
theorem d3r:Tryz.prog.stopsHeard=true:=by kernel_rfl
theorem c1y:joinedFacts Tryz.prog 15 Tryz.f15 Rows.rankPossibleSpec Rows.rankPossibleRow=true:=by
 unfold joinedFacts;repeat' with_reducible refine Bool.and_eq_true_iff.2 ⟨?_,?_⟩
 all_goals (first|with_reducible exact jq0|with_reducible exact jq1|with_reducible exact jq2|with_reducible exact jq3|with_reducible exact jq4|with_reducible exact jq5|with_reducible exact jq6|with_reducible exact jq7|with_reducible exact jq8|with_reducible exact jq9|with_reducible exact d3q|with_reducible exact d3r|kernel_rfl)
end Go.Proofs.YtoibondihdhnoaaGreatDoor
