/- Texts in one: The closed facts of the law RankFirst. -/
import Derived.Test.YtoibondihdhnoaaGreatDoorRows
import Derived.ProofKit
import Derived.LaidMore
import Derived.OpenShut
import Derived.Stop.Joined
import Derived.SevenTiedAt
namespace Go.Proofs.YtoibondihdhnoaaGreatDoor
open Go.ChangeShapes Go.WideShapes Go.ChangeAt Go.RowKit
set_option maxRecDepth 100000
theorem jq0:Rows.rankFirstRow.wf (OpenSpec.ofChange Rows.rankFirstSpec)=true:=by kernel_rfl
theorem jq1:laidOutB Tryz.prog=true:=by kernel_rfl
theorem jq2:mapsRowed Tryz.prog=true:=by kernel_rfl
theorem jq3:namedTie Tryz.prog Rows.rankFirstRow.named Rows.rankFirstSpec.vars=true:=by kernel_rfl
theorem jq4:(Rows.rankFirstRow.inPlace == Tryz.prog.inPlace 6)=true:=by kernel_rfl
theorem jq5:(Rows.rankFirstRow.unfollowed == Tryz.prog.unfollowed 6)=true:=by kernel_rfl
theorem jq6:(Rows.rankFirstRow.recurses == Tryz.prog.recurses 6)=true:=by kernel_rfl
theorem jq7:(Rows.rankFirstRow.named == Tryz.prog.varsNamed 6)=true:=by kernel_rfl
theorem jq8:Tryz.prog.mayEnter=true:=by kernel_rfl
theorem jq9:(Rows.rankFirstRow.lifted == Tryz.prog.liftsFinal)=true:=by kernel_rfl
theorem d3t:(Tryz.prog.make == some Rows.rankFirstRow.make)=true:=by kernel_rfl
theorem d3u:Tryz.prog.stopsHeard=true:=by kernel_rfl
theorem c5q:joinedFacts Tryz.prog 6 Tryz.f6 Rows.rankFirstSpec Rows.rankFirstRow=true:=by
 unfold joinedFacts;repeat' with_reducible refine Bool.and_eq_true_iff.2 ⟨?_,?_⟩
 all_goals (first|with_reducible exact jq0|with_reducible exact jq1|with_reducible exact jq2|with_reducible exact jq3|with_reducible exact jq4|with_reducible exact jq5|with_reducible exact jq6|with_reducible exact jq7|with_reducible exact jq8|with_reducible exact jq9|with_reducible exact d3t|with_reducible exact d3u|kernel_rfl)
end Go.Proofs.YtoibondihdhnoaaGreatDoor
