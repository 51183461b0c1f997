/- Texts in one: The closed facts of the law RankStays. -/
import Derived.Test.YtoibondihdhnoaaGreatDoorRows
import Derived.ProofKit
import Derived.LaidMore
import Derived.OpenShut
import Derived.Stop.Joined
import Derived.SevenTiedAt
namespace Go.Proofs.YtoibondihdhnoaaGreatDoor
open Go.ChangeShapes Go.WideShapes Go.ChangeAt Go.RowKit
set_option maxRecDepth 100000
theorem jq0:Rows.rankStaysRow.wf (OpenSpec.ofChange Rows.rankStaysSpec)=true:=by kernel_rfl
theorem jq1:laidOutB Tryz.prog=true:=by kernel_rfl
theorem jq2:mapsRowed Tryz.prog=true:=by kernel_rfl
theorem jq3:namedTie Tryz.prog Rows.rankStaysRow.named Rows.rankStaysSpec.vars=true:=by kernel_rfl
theorem jq4:(Rows.rankStaysRow.inPlace == Tryz.prog.inPlace 8)=true:=by kernel_rfl
theorem jq5:(Rows.rankStaysRow.unfollowed == Tryz.prog.unfollowed 8)=true:=by kernel_rfl
theorem jq6:(Rows.rankStaysRow.recurses == Tryz.prog.recurses 8)=true:=by kernel_rfl
theorem jq7:(Rows.rankStaysRow.named == Tryz.prog.varsNamed 8)=true:=by kernel_rfl
theorem jq8:Tryz.prog.mayEnter=true:=by kernel_rfl
theorem jq9:(Rows.rankStaysRow.lifted == Tryz.prog.liftsFinal)=true:=by kernel_rfl
theorem d3v:(Tryz.prog.make == some Rows.rankStaysRow.make)=true:=by kernel_rfl
theorem d3w:Tryz.prog.stopsHeard=true:=by kernel_rfl
theorem c5t:joinedFacts Tryz.prog 8 Tryz.f8 Rows.rankStaysSpec Rows.rankStaysRow=true:=by
 unfold joinedFacts;repeat' with_reducible refine Bool.and_eq_true_iff.2 ⟨?_,?_⟩
 all_goals (first|with_reducible exact jq0|with_reducible exact jq1|with_reducible exact jq2|with_reducible exact jq3|with_reducible exact jq4|with_reducible exact jq5|with_reducible exact jq6|with_reducible exact jq7|with_reducible exact jq8|with_reducible exact jq9|with_reducible exact d3v|with_reducible exact d3w|kernel_rfl)
end Go.Proofs.YtoibondihdhnoaaGreatDoor
