/- Rows of numbers and pairs as arguments, opened; no condition. -/
import Derived.Test.YtmfmpagfjgpodaaVArgs
import Derived.Test.YtmfmpagfjgpodaaVCars5
namespace Go.Proofs.Ytmfmpagfjgpodaa
open Go.ChangeShapes Go.WideShapes Go.ChangeAt Go.RowKit Go.Deep
set_option maxRecDepth 100000
section
variable {H : Type} {enc : TypeId × Value → H} {w : World} {base : Nat} {spare : Nat → Bool} {held : Bool}
theorem cells55 : Try.prog.cellsOf 55 = 2 := by kernel_rfl
theorem argInts {r : Reach} {b0 : Nat} {v : Value} {d : DataW H} {p : List MemPlace} (hv : Value.okWide Try.prog w r b0 87 v) (h : DataW.Trod enc Try.prog w base spare held 87 v d p) :
    ∃ l : List Int, (l.length ≤ maxLen ∧ ∀ x ∈ l, True) ∧ V0 w (fun _ => False) (intsA l) v :=
  arg_one (P := Try.prog) (t := 87) (f := fun l : List Int => intsA l) (opens_slice Try.underlying87 cells3 (by decide) opInt) (one_slice (t := 87) Try.underlying87 hv) h
theorem opTwo : Opens enc Try.prog w base spare held 55 (fun q : Int × Int => [I q.1, I q.2]) (fun _ => True) :=
  (opens_array Try.underlying55 cells3 rfl cells55 (opensF_cons cells3 opInt (opensF_cons cells3 opInt (opensF_nil _)))).map (fun q => (q.1, q.2.1)) (fun _ => rfl) (fun _ _ => trivial)
theorem argTwo {r : Reach} {b0 : Nat} {v : Value} {d : DataW H} {p : List MemPlace} (hv : Value.okWide Try.prog w r b0 55 v) (h : DataW.Trod enc Try.prog w base spare held 55 v d p) :
    ∃ q : Int × Int, True ∧ V0 w (fun _ => False) (.agg [I q.1, I q.2]) v := arg_agg (P := Try.prog) (t := 55) (F := fun q : Int × Int => [I q.1, I q.2]) (by kernel_rfl) opTwo hv h
end
end Go.Proofs.Ytmfmpagfjgpodaa
