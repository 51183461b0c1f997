/- Texts in one: The closed facts of the law RankKept. -/
import Derived.Test.YtoibondihdhnoaaGreatDoorRows
import Derived.ProofKit
import Derived.LaidMore
import Derived.OpenShut
import Derived.Stop.Joined
import Derived.SevenTiedAt
namespace Go.Proofs.YtoibondihdhnoaaGreatDoor
open Go.ChangeShapes Go.WideShapes Go.ChangeAt Go.RowKit
set_option maxRecDepth 100000
theorem jq0:Rows.rankKeptRow.wf (OpenSpec.ofChange Rows.rankKeptSpec)=true:=by kernel_rfl
theorem jq1:laidOutB Tryz.prog=true:=by kernel_rfl
theorem jq2:mapsRowed Tryz.prog=true:=by kernel_rfl
theorem jq3:namedTie Tryz.prog Rows.rankKeptRow.named Rows.rankKeptSpec.vars=true:=by kernel_rfl
theorem jq4:(Rows.rankKeptRow.inPlace == Tryz.prog.inPlace 14)=true:=by kernel_rfl
theorem jq5:(Rows.rankKeptRow.unfollowed == Tryz.prog.unfollowed 14)=true:=by kernel_rfl
theorem jq6:(Rows.rankKeptRow.recurses == Tryz.prog.recurses 14)=true:=by kernel_rfl
theorem jq7:(Rows.rankKeptRow.named == Tryz.prog.varsNamed 14)=true:=by kernel_rfl
theorem jq8:Tryz.prog.mayEnter=true:=by kernel_rfl
theorem jq9:(Rows.rankKeptRow.lifted == Tryz.prog.liftsFinal)=true:=by kernel_rfl
theorem d3c:(Tryz.prog.make == some Rows.rankKeptRow.make)=true:=by kernel_rfl
theorem d3d:Tryz.prog.stopsHeard=true:=by kernel_rfl
theorem c1p:joinedFacts Tryz.prog 14 Tryz.f14 Rows.rankKeptSpec Rows.rankKeptRow=true:=by
 unfold joinedFacts;repeat' with_reducible refine Bool.and_eq_true_iff.2 ⟨?_,?_⟩
 all_goals (first|with_reducible exact jq0|with_reducible exact jq1|with_reducible exact jq2|with_reducible exact jq3|with_reducible exact jq4|with_reducible exact jq5|with_reducible exact jq6|with_reducible exact jq7|with_reducible exact jq8|with_reducible exact jq9|with_reducible exact d3c|with_reducible exact d3d|kernel_rfl)
end Go.Proofs.YtoibondihdhnoaaGreatDoor
