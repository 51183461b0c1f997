/- The closed facts of the law RankStateTexts. -/
import Derived.Test.YtoibondihdhnoaaGreatDoorRows
import Derived.ProofKit
import Derived.LaidMore
import Derived.OpenShut
import Derived.Stop.Joined
import Derived.SevenTiedAt
namespace Go.Proofs.YtoibondihdhnoaaGreatDoor
open Go.ChangeShapes Go.WideShapes Go.ChangeAt Go.RowKit
set_option maxRecDepth 100000
theorem pD:Rows.rankStateTextsRow.wf (OpenSpec.ofChange Rows.rankStateTextsSpec)=true:=by kernel_rfl
theorem pE:laidOutB Tryz.prog=true:=by kernel_rfl
theorem pF:mapsRowed Tryz.prog=true:=by kernel_rfl
theorem pG:namedTie Tryz.prog Rows.rankStateTextsRow.named Rows.rankStateTextsSpec.vars=true:=by kernel_rfl
theorem pH:(Rows.rankStateTextsRow.inPlace == Tryz.prog.inPlace 12)=true:=by kernel_rfl
theorem pI:(Rows.rankStateTextsRow.unfollowed == Tryz.prog.unfollowed 12)=true:=by kernel_rfl
theorem pJ:(Rows.rankStateTextsRow.recurses == Tryz.prog.recurses 12)=true:=by kernel_rfl
theorem pK:(Rows.rankStateTextsRow.named == Tryz.prog.varsNamed 12)=true:=by kernel_rfl
theorem pL:Tryz.prog.mayEnter=true:=by kernel_rfl
theorem pM:(Rows.rankStateTextsRow.lifted == Tryz.prog.liftsFinal)=true:=by kernel_rfl
theorem pN:(Tryz.prog.make == some Rows.rankStateTextsRow.make)=true:=by kernel_rfl
theorem pP:Tryz.prog.stopsHeard=true:=by kernel_rfl
theorem Ri:joinedFacts Tryz.prog 12 Tryz.f12 Rows.rankStateTextsSpec Rows.rankStateTextsRow=true:=by
 unfold joinedFacts;repeat' with_reducible refine Bool.and_eq_true_iff.2 ⟨?_,?_⟩
 all_goals (first|with_reducible exact pD|with_reducible exact pE|with_reducible exact pF|with_reducible exact pG|with_reducible exact pH|with_reducible exact pI|with_reducible exact pJ|with_reducible exact pK|with_reducible exact pL|with_reducible exact pM|with_reducible exact pN|with_reducible exact pP|kernel_rfl)
end Go.Proofs.YtoibondihdhnoaaGreatDoor
