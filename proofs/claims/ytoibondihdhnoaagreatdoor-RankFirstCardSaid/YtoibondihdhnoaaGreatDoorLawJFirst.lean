/- The closed facts of the law RankFirst. -/
import Derived.Test.YtoibondihdhnoaaGreatDoorRows
import Derived.ProofKit
import Derived.LaidMore
import Derived.OpenShut
import Derived.Stop.Joined
import Derived.SevenTiedAt
namespace Go.Proofs.YtoibondihdhnoaaGreatDoor
open Go.ChangeShapes Go.WideShapes Go.ChangeAt Go.RowKit
set_option maxRecDepth 100000
theorem s9:Rows.rankFirstRow.wf (OpenSpec.ofChange Rows.rankFirstSpec)=true:=by kernel_rfl
theorem s_:laidOutB Tryz.prog=true:=by kernel_rfl
theorem ta:mapsRowed Tryz.prog=true:=by kernel_rfl
theorem tc:namedTie Tryz.prog Rows.rankFirstRow.named Rows.rankFirstSpec.vars=true:=by kernel_rfl
theorem tf:(Rows.rankFirstRow.inPlace == Tryz.prog.inPlace 6)=true:=by kernel_rfl
theorem tg:(Rows.rankFirstRow.unfollowed == Tryz.prog.unfollowed 6)=true:=by kernel_rfl
theorem th:(Rows.rankFirstRow.recurses == Tryz.prog.recurses 6)=true:=by kernel_rfl
theorem tj:(Rows.rankFirstRow.named == Tryz.prog.varsNamed 6)=true:=by kernel_rfl
theorem tl:Tryz.prog.mayEnter=true:=by kernel_rfl
theorem tn:(Rows.rankFirstRow.lifted == Tryz.prog.liftsFinal)=true:=by kernel_rfl
theorem tq:(Tryz.prog.make == some Rows.rankFirstRow.make)=true:=by kernel_rfl
theorem tr:Tryz.prog.stopsHeard=true:=by kernel_rfl
theorem Qp:joinedFacts Tryz.prog 6 Tryz.f6 Rows.rankFirstSpec Rows.rankFirstRow=true:=by
 unfold joinedFacts;repeat' with_reducible refine Bool.and_eq_true_iff.2 ⟨?_,?_⟩
 all_goals (first|with_reducible exact s9|with_reducible exact s_|with_reducible exact ta|with_reducible exact tc|with_reducible exact tf|with_reducible exact tg|with_reducible exact th|with_reducible exact tj|with_reducible exact tl|with_reducible exact tn|with_reducible exact tq|with_reducible exact tr|kernel_rfl)
end Go.Proofs.YtoibondihdhnoaaGreatDoor
