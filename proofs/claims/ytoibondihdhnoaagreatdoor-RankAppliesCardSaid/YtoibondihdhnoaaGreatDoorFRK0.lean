/- Texts in one: The closed facts of the law RankApplies. -/
import Derived.Test.YtoibondihdhnoaaGreatDoorRows
import Derived.ProofKit
import Derived.LaidMore
import Derived.OpenShut
import Derived.Stop.Joined
import Derived.SevenTiedAt
namespace Go.Proofs.YtoibondihdhnoaaGreatDoor
open Go.ChangeShapes Go.WideShapes Go.ChangeAt Go.RowKit
set_option maxRecDepth 100000
theorem HO:Rows.rankAppliesRow.wf (OpenSpec.ofChange Rows.rankAppliesSpec)=true:=by kernel_rfl
theorem HV:laidOutB Tryz.prog=true:=by kernel_rfl
theorem HW:mapsRowed Tryz.prog=true:=by kernel_rfl
theorem H0:namedTie Tryz.prog Rows.rankAppliesRow.named Rows.rankAppliesSpec.vars=true:=by kernel_rfl
theorem H3:(Rows.rankAppliesRow.inPlace == Tryz.prog.inPlace 13)=true:=by kernel_rfl
theorem H4:(Rows.rankAppliesRow.unfollowed == Tryz.prog.unfollowed 13)=true:=by kernel_rfl
theorem H5:(Rows.rankAppliesRow.recurses == Tryz.prog.recurses 13)=true:=by kernel_rfl
theorem H6:(Rows.rankAppliesRow.named == Tryz.prog.varsNamed 13)=true:=by kernel_rfl
theorem H7:Tryz.prog.mayEnter=true:=by kernel_rfl
theorem H8:(Rows.rankAppliesRow.lifted == Tryz.prog.liftsFinal)=true:=by kernel_rfl
theorem H9:(Tryz.prog.make == some Rows.rankAppliesRow.make)=true:=by kernel_rfl
theorem H_:Tryz.prog.stopsHeard=true:=by kernel_rfl
theorem Ia:joinedFacts Tryz.prog 13 Tryz.f13 Rows.rankAppliesSpec Rows.rankAppliesRow=true:=by
 unfold joinedFacts;repeat' with_reducible refine Bool.and_eq_true_iff.2 ⟨?_,?_⟩
 all_goals (first|with_reducible exact HO|with_reducible exact HV|with_reducible exact HW|with_reducible exact H0|with_reducible exact H3|with_reducible exact H4|with_reducible exact H5|with_reducible exact H6|with_reducible exact H7|with_reducible exact H8|with_reducible exact H9|with_reducible exact H_|kernel_rfl)
end Go.Proofs.YtoibondihdhnoaaGreatDoor
