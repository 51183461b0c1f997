/- Texts in one: Uses, plates and rows of bytes as arguments, opened; no condition. -/
import Derived.Test.YtmfmpagfjgpodaaMP21
import Derived.Test.YtmfmpagfjgpodaaMP33
/-! VArgs4: Uses, plates and rows of bytes as arguments, opened; no condition. -/
namespace Go.Proofs.Ytmfmpagfjgpodaa
open Go.ChangeShapes Go.WideShapes Go.ChangeAt Go.RowKit Go.Deep
set_option maxRecDepth 100000
section
variable {H : Type} {enc : TypeId × Value → H} {w : World} {base : Nat} {spare : Nat → Bool} {held : Bool}
theorem cells120 : Try.prog.cellsOf 120 = 3 := by kernel_rfl
theorem cells87 : Try.prog.cellsOf 87 = 1 := by kernel_rfl
theorem cells110 : Try.prog.cellsOf 110 = 2 := by kernel_rfl
theorem opUse : Opens enc Try.prog w base spare held 120 Rec.av (fun r => r.driver.size ≤ maxLen) :=
  (opens_struct Try.underlying120 rfl cells120 (opensF_cons cells9 opStr (opensF_cons cells3 opInt (opensF_cons cells3 opInt (opensF_nil _))))).map (fun q => (⟨q.1, q.2.1, q.2.2.1⟩ : Rec)) (fun _ => rfl) (fun _ h => h.1)
theorem argUses {r : Reach} {b0 : Nat} {v : Value} {d : DataW H} {p : List MemPlace} (hv : Value.okWide Try.prog w r b0 108 v) (h : DataW.Trod enc Try.prog w base spare held 108 v d p) :
    ∃ l : List Rec, (l.length ≤ maxLen ∧ ∀ x ∈ l, x.driver.size ≤ maxLen) ∧ V0 w (fun _ => False) (recsA l) v :=
  arg_one (P := Try.prog) (t := 108) (f := fun l : List Rec => recsA l) (opens_slice Try.underlying108 cells120 (by decide) opUse) (one_slice (t := 108) Try.underlying108 hv) h
theorem opPlates : Opens enc Try.prog w base spare held 110 (fun q : List Int × Int => platesA q.1 q.2) (fun q => q.1.length ≤ maxLen) :=
  (opens_struct Try.underlying110 rfl cells110 (opensF_cons cells87 (opens_slice Try.underlying87 cells3 (by decide) opInt) (opensF_cons cells3 opInt (opensF_nil _)))).map (fun q => (q.1, q.2.1)) (fun _ => rfl) (fun _ h => h.1.1)
theorem argPlates {r : Reach} {b0 : Nat} {v : Value} {d : DataW H} {p : List MemPlace} (hv : Value.okWide Try.prog w r b0 110 v) (h : DataW.Trod enc Try.prog w base spare held 110 v d p) :
    ∃ q : List Int × Int, q.1.length ≤ maxLen ∧ V0 w (fun _ => False) (.agg (platesA q.1 q.2)) v :=
  arg_agg (P := Try.prog) (t := 110) (F := fun q : List Int × Int => platesA q.1 q.2) (by kernel_rfl) opPlates hv h
end
end Go.Proofs.Ytmfmpagfjgpodaa
