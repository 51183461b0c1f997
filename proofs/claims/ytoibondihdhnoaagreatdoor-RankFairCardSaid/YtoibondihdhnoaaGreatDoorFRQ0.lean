/- Texts in one: The closed facts of the law RankFair. -/
import Derived.Test.YtoibondihdhnoaaGreatDoorRows
import Derived.ProofKit
import Derived.LaidMore
import Derived.OpenShut
import Derived.Stop.Joined
import Derived.SevenTiedAt
namespace Go.Proofs.YtoibondihdhnoaaGreatDoor
open Go.ChangeShapes Go.WideShapes Go.ChangeAt Go.RowKit
set_option maxRecDepth 100000
theorem H_:Rows.rankFairRow.wf (OpenSpec.ofChange Rows.rankFairSpec)=true:=by kernel_rfl
theorem Ia:laidOutB Tryz.prog=true:=by kernel_rfl
theorem Ib:mapsRowed Tryz.prog=true:=by kernel_rfl
theorem Ic:namedTie Tryz.prog Rows.rankFairRow.named Rows.rankFairSpec.vars=true:=by kernel_rfl
theorem Ie:(Rows.rankFairRow.inPlace == Tryz.prog.inPlace 11)=true:=by kernel_rfl
theorem Ig:(Rows.rankFairRow.unfollowed == Tryz.prog.unfollowed 11)=true:=by kernel_rfl
theorem Ih:(Rows.rankFairRow.recurses == Tryz.prog.recurses 11)=true:=by kernel_rfl
theorem Ii:(Rows.rankFairRow.named == Tryz.prog.varsNamed 11)=true:=by kernel_rfl
theorem Ij:Tryz.prog.mayEnter=true:=by kernel_rfl
theorem Ik:(Rows.rankFairRow.lifted == Tryz.prog.liftsFinal)=true:=by kernel_rfl
theorem Il:(Tryz.prog.make == some Rows.rankFairRow.make)=true:=by kernel_rfl
theorem Im:Tryz.prog.stopsHeard=true:=by kernel_rfl
theorem Io:joinedFacts Tryz.prog 11 Tryz.f11 Rows.rankFairSpec Rows.rankFairRow=true:=by
 unfold joinedFacts;repeat' with_reducible refine Bool.and_eq_true_iff.2 ⟨?_,?_⟩
 all_goals (first|with_reducible exact H_|with_reducible exact Ia|with_reducible exact Ib|with_reducible exact Ic|with_reducible exact Ie|with_reducible exact Ig|with_reducible exact Ih|with_reducible exact Ii|with_reducible exact Ij|with_reducible exact Ik|with_reducible exact Il|with_reducible exact Im|kernel_rfl)
end Go.Proofs.YtoibondihdhnoaaGreatDoor
