/- Texts in one: Rows of bytes as arguments, opened; no condition. -/
import Derived.Test.YtmfmpagfjgpodaaMS21
import Derived.Test.YtmfmpagfjgpodaaMS35
/-! VArgs5: Rows of bytes as arguments, opened; no condition. -/
namespace Go.Proofs.Ytmfmpagfjgpodaa
open Go.ChangeShapes Go.WideShapes Go.ChangeAt Go.RowKit Go.Deep
set_option maxRecDepth 100000
theorem wf8 {c : Int} (h : (Lit.int .u8 c).wf = true) : 0 ≤ c ∧ c < 256 := by
  have h1 : IntKind.u8.min = 0 := rfl
  have h2 : IntKind.u8.max = 255 := rfl
  simp [Lit.wf, h1, h2] at h
  omega
section
variable {H : Type} {enc : TypeId × Value → H} {w : World} {base : Nat} {spare : Nat → Bool} {held : Bool}
theorem cells5 : Try.prog.cellsOf 5 = 1 := by kernel_rfl
theorem opU8 : Opens enc Try.prog w base spare held 5 u8A (fun n => (Lit.int .u8 n).wf = true) := opens_int Try.underlying5
theorem argU8s {r : Reach} {b0 : Nat} {v : Value} {d : DataW H} {p : List MemPlace} (hv : Value.okWide Try.prog w r b0 122 v) (h : DataW.Trod enc Try.prog w base spare held 122 v d p) :
    ∃ l : List Int, (l.length ≤ maxLen ∧ ∀ x ∈ l, (Lit.int .u8 x).wf = true) ∧ V0 w (fun _ => False) (.sl 1 (l.map u8A)) v :=
  arg_one (P := Try.prog) (t := 122) (f := fun l : List Int => .sl 1 (l.map u8A)) (opens_slice Try.underlying122 cells5 (by decide) opU8) (one_slice (t := 122) Try.underlying122 hv) h
end
end Go.Proofs.Ytmfmpagfjgpodaa
