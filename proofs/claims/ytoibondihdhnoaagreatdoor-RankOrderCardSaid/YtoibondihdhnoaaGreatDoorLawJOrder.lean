/- The closed facts of the law RankOrder. -/
import Derived.Test.YtoibondihdhnoaaGreatDoorRows
import Derived.ProofKit
import Derived.LaidMore
import Derived.OpenShut
import Derived.Stop.Joined
import Derived.SevenTiedAt
namespace Go.Proofs.YtoibondihdhnoaaGreatDoor
open Go.ChangeShapes Go.WideShapes Go.ChangeAt Go.RowKit
set_option maxRecDepth 100000
theorem s9:Rows.rankOrderRow.wf (OpenSpec.ofChange Rows.rankOrderSpec)=true:=by kernel_rfl
theorem s_:laidOutB Tryz.prog=true:=by kernel_rfl
theorem ta:mapsRowed Tryz.prog=true:=by kernel_rfl
theorem tc:namedTie Tryz.prog Rows.rankOrderRow.named Rows.rankOrderSpec.vars=true:=by kernel_rfl
theorem tf:(Rows.rankOrderRow.inPlace == Tryz.prog.inPlace 5)=true:=by kernel_rfl
theorem tg:(Rows.rankOrderRow.unfollowed == Tryz.prog.unfollowed 5)=true:=by kernel_rfl
theorem th:(Rows.rankOrderRow.recurses == Tryz.prog.recurses 5)=true:=by kernel_rfl
theorem tj:(Rows.rankOrderRow.named == Tryz.prog.varsNamed 5)=true:=by kernel_rfl
theorem tl:Tryz.prog.mayEnter=true:=by kernel_rfl
theorem tn:(Rows.rankOrderRow.lifted == Tryz.prog.liftsFinal)=true:=by kernel_rfl
theorem tq:(Tryz.prog.make == some Rows.rankOrderRow.make)=true:=by kernel_rfl
theorem tr:Tryz.prog.stopsHeard=true:=by kernel_rfl
theorem Qq:joinedFacts Tryz.prog 5 Tryz.f5 Rows.rankOrderSpec Rows.rankOrderRow=true:=by
 unfold joinedFacts;repeat' with_reducible refine Bool.and_eq_true_iff.2 ⟨?_,?_⟩
 all_goals (first|with_reducible exact s9|with_reducible exact s_|with_reducible exact ta|with_reducible exact tc|with_reducible exact tf|with_reducible exact tg|with_reducible exact th|with_reducible exact tj|with_reducible exact tl|with_reducible exact tn|with_reducible exact tq|with_reducible exact tr|kernel_rfl)
end Go.Proofs.YtoibondihdhnoaaGreatDoor
