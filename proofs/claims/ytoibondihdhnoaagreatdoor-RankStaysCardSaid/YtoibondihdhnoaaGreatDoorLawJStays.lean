/- The closed facts of the law RankStays. -/
import Derived.Test.YtoibondihdhnoaaGreatDoorRows
import Derived.ProofKit
import Derived.LaidMore
import Derived.OpenShut
import Derived.Stop.Joined
import Derived.SevenTiedAt
namespace Go.Proofs.YtoibondihdhnoaaGreatDoor
open Go.ChangeShapes Go.WideShapes Go.ChangeAt Go.RowKit
set_option maxRecDepth 100000
theorem s9:Rows.rankStaysRow.wf (OpenSpec.ofChange Rows.rankStaysSpec)=true:=by kernel_rfl
theorem s_:laidOutB Tryz.prog=true:=by kernel_rfl
theorem ta:mapsRowed Tryz.prog=true:=by kernel_rfl
theorem tc:namedTie Tryz.prog Rows.rankStaysRow.named Rows.rankStaysSpec.vars=true:=by kernel_rfl
theorem tf:(Rows.rankStaysRow.inPlace == Tryz.prog.inPlace 8)=true:=by kernel_rfl
theorem tg:(Rows.rankStaysRow.unfollowed == Tryz.prog.unfollowed 8)=true:=by kernel_rfl
theorem th:(Rows.rankStaysRow.recurses == Tryz.prog.recurses 8)=true:=by kernel_rfl
theorem tj:(Rows.rankStaysRow.named == Tryz.prog.varsNamed 8)=true:=by kernel_rfl
theorem tl:Tryz.prog.mayEnter=true:=by kernel_rfl
theorem tn:(Rows.rankStaysRow.lifted == Tryz.prog.liftsFinal)=true:=by kernel_rfl
theorem tq:(Tryz.prog.make == some Rows.rankStaysRow.make)=true:=by kernel_rfl
theorem tr:Tryz.prog.stopsHeard=true:=by kernel_rfl
theorem Qs:joinedFacts Tryz.prog 8 Tryz.f8 Rows.rankStaysSpec Rows.rankStaysRow=true:=by
 unfold joinedFacts;repeat' with_reducible refine Bool.and_eq_true_iff.2 ⟨?_,?_⟩
 all_goals (first|with_reducible exact s9|with_reducible exact s_|with_reducible exact ta|with_reducible exact tc|with_reducible exact tf|with_reducible exact tg|with_reducible exact th|with_reducible exact tj|with_reducible exact tl|with_reducible exact tn|with_reducible exact tq|with_reducible exact tr|kernel_rfl)
end Go.Proofs.YtoibondihdhnoaaGreatDoor
