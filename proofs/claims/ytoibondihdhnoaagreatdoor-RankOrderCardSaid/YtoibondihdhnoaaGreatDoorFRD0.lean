/- Texts in one: The closed facts of the law RankOrder. -/
import Derived.Test.YtoibondihdhnoaaGreatDoorRows
import Derived.ProofKit
import Derived.LaidMore
import Derived.OpenShut
import Derived.Stop.Joined
import Derived.SevenTiedAt
namespace Go.Proofs.YtoibondihdhnoaaGreatDoor
open Go.ChangeShapes Go.WideShapes Go.ChangeAt Go.RowKit
set_option maxRecDepth 100000
theorem jq0:Rows.rankOrderRow.wf (OpenSpec.ofChange Rows.rankOrderSpec)=true:=by kernel_rfl
theorem jq1:laidOutB Tryz.prog=true:=by kernel_rfl
theorem jq2:mapsRowed Tryz.prog=true:=by kernel_rfl
theorem jq3:namedTie Tryz.prog Rows.rankOrderRow.named Rows.rankOrderSpec.vars=true:=by kernel_rfl
theorem jq4:(Rows.rankOrderRow.inPlace == Tryz.prog.inPlace 5)=true:=by kernel_rfl
theorem jq5:(Rows.rankOrderRow.unfollowed == Tryz.prog.unfollowed 5)=true:=by kernel_rfl
theorem jq6:(Rows.rankOrderRow.recurses == Tryz.prog.recurses 5)=true:=by kernel_rfl
theorem jq7:(Rows.rankOrderRow.named == Tryz.prog.varsNamed 5)=true:=by kernel_rfl
theorem jq8:Tryz.prog.mayEnter=true:=by kernel_rfl
theorem jq9:(Rows.rankOrderRow.lifted == Tryz.prog.liftsFinal)=true:=by kernel_rfl
theorem d3r:(Tryz.prog.make == some Rows.rankOrderRow.make)=true:=by kernel_rfl
theorem d3s:Tryz.prog.stopsHeard=true:=by kernel_rfl
theorem c5l:joinedFacts Tryz.prog 5 Tryz.f5 Rows.rankOrderSpec Rows.rankOrderRow=true:=by
 unfold joinedFacts;repeat' with_reducible refine Bool.and_eq_true_iff.2 ⟨?_,?_⟩
 all_goals (first|with_reducible exact jq0|with_reducible exact jq1|with_reducible exact jq2|with_reducible exact jq3|with_reducible exact jq4|with_reducible exact jq5|with_reducible exact jq6|with_reducible exact jq7|with_reducible exact jq8|with_reducible exact jq9|with_reducible exact d3r|with_reducible exact d3s|kernel_rfl)
end Go.Proofs.YtoibondihdhnoaaGreatDoor
