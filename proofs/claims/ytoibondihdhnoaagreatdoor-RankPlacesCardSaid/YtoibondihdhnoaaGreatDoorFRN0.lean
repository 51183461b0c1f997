/- Texts in one: The closed facts of the law RankPlaces. -/
import Derived.Test.YtoibondihdhnoaaGreatDoorRows
import Derived.ProofKit
import Derived.LaidMore
import Derived.OpenShut
import Derived.Stop.Joined
import Derived.SevenTiedAt
namespace Go.Proofs.YtoibondihdhnoaaGreatDoor
open Go.ChangeShapes Go.WideShapes Go.ChangeAt Go.RowKit
set_option maxRecDepth 100000
theorem jq0:Rows.rankPlacesRow.wf (OpenSpec.ofChange Rows.rankPlacesSpec)=true:=by kernel_rfl
theorem jq1:laidOutB Tryz.prog=true:=by kernel_rfl
theorem jq2:mapsRowed Tryz.prog=true:=by kernel_rfl
theorem jq3:namedTie Tryz.prog Rows.rankPlacesRow.named Rows.rankPlacesSpec.vars=true:=by kernel_rfl
theorem jq4:(Rows.rankPlacesRow.inPlace == Tryz.prog.inPlace 16)=true:=by kernel_rfl
theorem jq5:(Rows.rankPlacesRow.unfollowed == Tryz.prog.unfollowed 16)=true:=by kernel_rfl
theorem jq6:(Rows.rankPlacesRow.recurses == Tryz.prog.recurses 16)=true:=by kernel_rfl
theorem jq7:(Rows.rankPlacesRow.named == Tryz.prog.varsNamed 16)=true:=by kernel_rfl
theorem jq8:Tryz.prog.mayEnter=true:=by kernel_rfl
theorem jq9:(Rows.rankPlacesRow.lifted == Tryz.prog.liftsFinal)=true:=by kernel_rfl
theorem d3p:(Tryz.prog.make == some Rows.rankPlacesRow.make)=true:=by kernel_rfl
theorem d3q:Tryz.prog.stopsHeard=true:=by kernel_rfl
theorem c1s:joinedFacts Tryz.prog 16 Tryz.f16 Rows.rankPlacesSpec Rows.rankPlacesRow=true:=by
 unfold joinedFacts;repeat' with_reducible refine Bool.and_eq_true_iff.2 ⟨?_,?_⟩
 all_goals (first|with_reducible exact jq0|with_reducible exact jq1|with_reducible exact jq2|with_reducible exact jq3|with_reducible exact jq4|with_reducible exact jq5|with_reducible exact jq6|with_reducible exact jq7|with_reducible exact jq8|with_reducible exact jq9|with_reducible exact d3p|with_reducible exact d3q|kernel_rfl)
end Go.Proofs.YtoibondihdhnoaaGreatDoor
