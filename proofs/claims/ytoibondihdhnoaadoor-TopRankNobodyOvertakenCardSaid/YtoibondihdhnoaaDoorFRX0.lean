/- Texts in one: The closed facts of the law TopRankNobodyOvertaken. -/
import Derived.Test.YtoibondihdhnoaaDoorRows
import Derived.ProofKit
import Derived.LaidMore
import Derived.OpenShut
import Derived.Stop.Joined
import Derived.SevenTiedAt
namespace Go.Proofs.YtoibondihdhnoaaDoor
open Go.ChangeShapes Go.WideShapes Go.ChangeAt Go.RowKit
set_option maxRecDepth 100000
theorem jq0:Rows.topRankNobodyOvertakenRow.wf (OpenSpec.ofChange Rows.topRankNobodyOvertakenSpec)=true:=by kernel_rfl
theorem jq1:laidOutB Tryd.prog=true:=by kernel_rfl
theorem jq2:mapsRowed Tryd.prog=true:=by kernel_rfl
theorem jq3:namedTie Tryd.prog Rows.topRankNobodyOvertakenRow.named Rows.topRankNobodyOvertakenSpec.vars=true:=by kernel_rfl
theorem jq4:(Rows.topRankNobodyOvertakenRow.inPlace == Tryd.prog.inPlace 3)=true:=by kernel_rfl
theorem jq5:(Rows.topRankNobodyOvertakenRow.unfollowed == Tryd.prog.unfollowed 3)=true:=by kernel_rfl
theorem jq6:(Rows.topRankNobodyOvertakenRow.recurses == Tryd.prog.recurses 3)=true:=by kernel_rfl
theorem jq7:(Rows.topRankNobodyOvertakenRow.named == Tryd.prog.varsNamed 3)=true:=by kernel_rfl
theorem jq8:Tryd.prog.mayEnter=true:=by kernel_rfl
theorem jq9:(Rows.topRankNobodyOvertakenRow.lifted == Tryd.prog.liftsFinal)=true:=by kernel_rfl
theorem d4w:(Tryd.prog.make == some Rows.topRankNobodyOvertakenRow.make)=true:=by kernel_rfl
theorem d4x:Tryd.prog.stopsHeard=true:=by kernel_rfl
theorem c6j:joinedFacts Tryd.prog 3 Tryd.f3 Rows.topRankNobodyOvertakenSpec Rows.topRankNobodyOvertakenRow=true:=by
 unfold joinedFacts;repeat' with_reducible refine Bool.and_eq_true_iff.2 ⟨?_,?_⟩
 all_goals (first|with_reducible exact jq0|with_reducible exact jq1|with_reducible exact jq2|with_reducible exact jq3|with_reducible exact jq4|with_reducible exact jq5|with_reducible exact jq6|with_reducible exact jq7|with_reducible exact jq8|with_reducible exact jq9|with_reducible exact d4w|with_reducible exact d4x|kernel_rfl)
end Go.Proofs.YtoibondihdhnoaaDoor
