/- Texts in one: The closed facts of the law RankReplays. -/
import Derived.Test.YtoibondihdhnoaaGreatDoorRows
import Derived.ProofKit
import Derived.LaidMore
import Derived.OpenShut
import Derived.Stop.Joined
import Derived.SevenTiedAt
namespace Go.Proofs.YtoibondihdhnoaaGreatDoor
open Go.ChangeShapes Go.WideShapes Go.ChangeAt Go.RowKit
set_option maxRecDepth 100000
theorem jq0:Rows.rankReplaysRow.wf (OpenSpec.ofChange Rows.rankReplaysSpec)=true:=by kernel_rfl
theorem jq1:laidOutB Tryz.prog=true:=by kernel_rfl
theorem jq2:mapsRowed Tryz.prog=true:=by kernel_rfl
theorem jq3:namedTie Tryz.prog Rows.rankReplaysRow.named Rows.rankReplaysSpec.vars=true:=by kernel_rfl
theorem jq4:(Rows.rankReplaysRow.inPlace == Tryz.prog.inPlace 3)=true:=by kernel_rfl
theorem jq5:(Rows.rankReplaysRow.unfollowed == Tryz.prog.unfollowed 3)=true:=by kernel_rfl
theorem jq6:(Rows.rankReplaysRow.recurses == Tryz.prog.recurses 3)=true:=by kernel_rfl
theorem jq7:(Rows.rankReplaysRow.named == Tryz.prog.varsNamed 3)=true:=by kernel_rfl
theorem jq8:Tryz.prog.mayEnter=true:=by kernel_rfl
theorem jq9:(Rows.rankReplaysRow.lifted == Tryz.prog.liftsFinal)=true:=by kernel_rfl
theorem d2u:(Tryz.prog.make == some Rows.rankReplaysRow.make)=true:=by kernel_rfl
theorem d2v:Tryz.prog.stopsHeard=true:=by kernel_rfl
theorem c4s:joinedFacts Tryz.prog 3 Tryz.f3 Rows.rankReplaysSpec Rows.rankReplaysRow=true:=by
 unfold joinedFacts;repeat' with_reducible refine Bool.and_eq_true_iff.2 ⟨?_,?_⟩
 all_goals (first|with_reducible exact jq0|with_reducible exact jq1|with_reducible exact jq2|with_reducible exact jq3|with_reducible exact jq4|with_reducible exact jq5|with_reducible exact jq6|with_reducible exact jq7|with_reducible exact jq8|with_reducible exact jq9|with_reducible exact d2u|with_reducible exact d2v|kernel_rfl)
end Go.Proofs.YtoibondihdhnoaaGreatDoor
