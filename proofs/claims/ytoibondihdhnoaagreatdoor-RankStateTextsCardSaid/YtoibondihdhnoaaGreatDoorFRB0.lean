/- Texts in one: The closed facts of the law RankStateTexts. -/
import Derived.Test.YtoibondihdhnoaaGreatDoorRows
import Derived.ProofKit
import Derived.LaidMore
import Derived.OpenShut
import Derived.Stop.Joined
import Derived.SevenTiedAt
namespace Go.Proofs.YtoibondihdhnoaaGreatDoor
open Go.ChangeShapes Go.WideShapes Go.ChangeAt Go.RowKit
set_option maxRecDepth 100000
theorem jq0:Rows.rankStateTextsRow.wf (OpenSpec.ofChange Rows.rankStateTextsSpec)=true:=by kernel_rfl
theorem jq1:laidOutB Tryz.prog=true:=by kernel_rfl
theorem jq2:mapsRowed Tryz.prog=true:=by kernel_rfl
theorem jq3:namedTie Tryz.prog Rows.rankStateTextsRow.named Rows.rankStateTextsSpec.vars=true:=by kernel_rfl
theorem jq4:(Rows.rankStateTextsRow.inPlace == Tryz.prog.inPlace 12)=true:=by kernel_rfl
theorem jq5:(Rows.rankStateTextsRow.unfollowed == Tryz.prog.unfollowed 12)=true:=by kernel_rfl
theorem jq6:(Rows.rankStateTextsRow.recurses == Tryz.prog.recurses 12)=true:=by kernel_rfl
theorem jq7:(Rows.rankStateTextsRow.named == Tryz.prog.varsNamed 12)=true:=by kernel_rfl
theorem jq8:Tryz.prog.mayEnter=true:=by kernel_rfl
theorem jq9:(Rows.rankStateTextsRow.lifted == Tryz.prog.liftsFinal)=true:=by kernel_rfl
theorem d5y:(Tryz.prog.make == some Rows.rankStateTextsRow.make)=true:=by kernel_rfl
theorem d5z:Tryz.prog.stopsHeard=true:=by kernel_rfl
theorem c4a:joinedFacts Tryz.prog 12 Tryz.f12 Rows.rankStateTextsSpec Rows.rankStateTextsRow=true:=by
 unfold joinedFacts
 repeat' (with_reducible refine Bool.and_eq_true_iff.2 ⟨?_,?_⟩)
 all_goals (first|with_reducible exact jq0|with_reducible exact jq1|with_reducible exact jq2|with_reducible exact jq3|with_reducible exact jq4|with_reducible exact jq5|with_reducible exact jq6|with_reducible exact jq7|with_reducible exact jq8|with_reducible exact jq9|with_reducible exact d5y|with_reducible exact d5z|kernel_rfl)
end Go.Proofs.YtoibondihdhnoaaGreatDoor
