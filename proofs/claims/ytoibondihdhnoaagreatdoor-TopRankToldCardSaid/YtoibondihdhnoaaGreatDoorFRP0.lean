/- Texts in one: The closed facts of the law TopRankTold. -/
import Derived.Test.YtoibondihdhnoaaGreatDoorRows
import Derived.ProofKit
import Derived.LaidMore
import Derived.OpenShut
import Derived.Stop.Joined
import Derived.SevenTiedAt
namespace Go.Proofs.YtoibondihdhnoaaGreatDoor
open Go.ChangeShapes Go.WideShapes Go.ChangeAt Go.RowKit
set_option maxRecDepth 100000
theorem I9:Rows.topRankToldRow.wf (OpenSpec.ofChange Rows.topRankToldSpec)=true:=by kernel_rfl
theorem I_:laidOutB Tryz.prog=true:=by kernel_rfl
theorem Ja:mapsRowed Tryz.prog=true:=by kernel_rfl
theorem Jb:namedTie Tryz.prog Rows.topRankToldRow.named Rows.topRankToldSpec.vars=true:=by kernel_rfl
theorem Jc:(Rows.topRankToldRow.inPlace == Tryz.prog.inPlace 17)=true:=by kernel_rfl
theorem Jd:(Rows.topRankToldRow.unfollowed == Tryz.prog.unfollowed 17)=true:=by kernel_rfl
theorem Je:(Rows.topRankToldRow.recurses == Tryz.prog.recurses 17)=true:=by kernel_rfl
theorem Jf:(Rows.topRankToldRow.named == Tryz.prog.varsNamed 17)=true:=by kernel_rfl
theorem Jg:Tryz.prog.mayEnter=true:=by kernel_rfl
theorem Jh:(Rows.topRankToldRow.lifted == Tryz.prog.liftsFinal)=true:=by kernel_rfl
theorem Ji:(Tryz.prog.make == some Rows.topRankToldRow.make)=true:=by kernel_rfl
theorem Jj:Tryz.prog.stopsHeard=true:=by kernel_rfl
theorem Jk:joinedFacts Tryz.prog 17 Tryz.f17 Rows.topRankToldSpec Rows.topRankToldRow=true:=by
 unfold joinedFacts;repeat' with_reducible refine Bool.and_eq_true_iff.2 ⟨?_,?_⟩
 all_goals (first|with_reducible exact I9|with_reducible exact I_|with_reducible exact Ja|with_reducible exact Jb|with_reducible exact Jc|with_reducible exact Jd|with_reducible exact Je|with_reducible exact Jf|with_reducible exact Jg|with_reducible exact Jh|with_reducible exact Ji|with_reducible exact Jj|kernel_rfl)
end Go.Proofs.YtoibondihdhnoaaGreatDoor
