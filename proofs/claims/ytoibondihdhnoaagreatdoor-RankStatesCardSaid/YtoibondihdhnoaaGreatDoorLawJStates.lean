/- The closed facts of the law RankStates. -/
import Derived.Test.YtoibondihdhnoaaGreatDoorRows
import Derived.ProofKit
import Derived.LaidMore
import Derived.OpenShut
import Derived.Stop.Joined
import Derived.SevenTiedAt
namespace Go.Proofs.YtoibondihdhnoaaGreatDoor
open Go.ChangeShapes Go.WideShapes Go.ChangeAt Go.RowKit
set_option maxRecDepth 100000
theorem pD:Rows.rankStatesRow.wf (OpenSpec.ofChange Rows.rankStatesSpec)=true:=by kernel_rfl
theorem pE:laidOutB Tryz.prog=true:=by kernel_rfl
theorem pF:mapsRowed Tryz.prog=true:=by kernel_rfl
theorem pG:namedTie Tryz.prog Rows.rankStatesRow.named Rows.rankStatesSpec.vars=true:=by kernel_rfl
theorem pH:(Rows.rankStatesRow.inPlace == Tryz.prog.inPlace 10)=true:=by kernel_rfl
theorem pI:(Rows.rankStatesRow.unfollowed == Tryz.prog.unfollowed 10)=true:=by kernel_rfl
theorem pJ:(Rows.rankStatesRow.recurses == Tryz.prog.recurses 10)=true:=by kernel_rfl
theorem pK:(Rows.rankStatesRow.named == Tryz.prog.varsNamed 10)=true:=by kernel_rfl
theorem pL:Tryz.prog.mayEnter=true:=by kernel_rfl
theorem pM:(Rows.rankStatesRow.lifted == Tryz.prog.liftsFinal)=true:=by kernel_rfl
theorem pN:(Tryz.prog.make == some Rows.rankStatesRow.make)=true:=by kernel_rfl
theorem pP:Tryz.prog.stopsHeard=true:=by kernel_rfl
theorem Rj:joinedFacts Tryz.prog 10 Tryz.f10 Rows.rankStatesSpec Rows.rankStatesRow=true:=by
 unfold joinedFacts;repeat' with_reducible refine Bool.and_eq_true_iff.2 ⟨?_,?_⟩
 all_goals (first|with_reducible exact pD|with_reducible exact pE|with_reducible exact pF|with_reducible exact pG|with_reducible exact pH|with_reducible exact pI|with_reducible exact pJ|with_reducible exact pK|with_reducible exact pL|with_reducible exact pM|with_reducible exact pN|with_reducible exact pP|kernel_rfl)
end Go.Proofs.YtoibondihdhnoaaGreatDoor
