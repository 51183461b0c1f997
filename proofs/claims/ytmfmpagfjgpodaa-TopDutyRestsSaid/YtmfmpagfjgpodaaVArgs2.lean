/- The type of a day's trips, opened; no condition. -/
import Derived.Test.YtmfmpagfjgpodaaVArgs
import Derived.Test.YtmfmpagfjgpodaaVTop
namespace Go.Proofs.Ytmfmpagfjgpodaa
open Go.ChangeShapes Go.WideShapes Go.ChangeAt Go.RowKit Go.Deep
set_option maxRecDepth 100000
section
variable {H : Type} {enc : TypeId × Value → H} {w : World} {base : Nat} {spare : Nat → Bool} {held : Bool}
theorem cells96 : Try.prog.cellsOf 96 = 1 := by kernel_rfl
theorem cells98 : Try.prog.cellsOf 98 = 6 := by kernel_rfl
theorem cells101 : Try.prog.cellsOf 101 = 4 := by kernel_rfl
theorem opDone : Opens enc Try.prog w base spare held 101 Done.av (fun _ => True) :=
  (opens_struct Try.underlying101 rfl cells101 (opensF_cons cells3 opInt (opensF_cons cells37 opTakes (opensF_cons cells3 opInt (opensF_nil _))))).map (fun q => (⟨q.1, q.2.1.1, q.2.1.2, q.2.2.1⟩ : Done)) (fun _ => rfl) (fun _ _ => trivial)
theorem opDay : Opens enc Try.prog w base spare held 98 (fun q : Rul × List Done => [I q.1.brk, I q.1.rest, I q.1.stint, I q.1.shift, I q.1.week, .sl 4 (q.2.map Done.av)]) (fun q => q.2.length ≤ maxLen) :=
  (opens_struct Try.underlying98 rfl cells98 (opensF_cons cells35 opRul (opensF_cons cells96 (opens_slice Try.underlying96 cells101 (by decide) opDone) (opensF_nil _)))).map (fun q => (q.1, q.2.1)) (fun _ => rfl) (fun _ h => h.2.1.1)
theorem argDay {r : Reach} {b0 : Nat} {v : Value} {d : DataW H} {p : List MemPlace} (hv : Value.okWide Try.prog w r b0 98 v) (h : DataW.Trod enc Try.prog w base spare held 98 v d p) :
    ∃ q : Rul × List Done, q.2.length ≤ maxLen ∧ V0 w (fun _ => False) (.agg [I q.1.brk, I q.1.rest, I q.1.stint, I q.1.shift, I q.1.week, .sl 4 (q.2.map Done.av)]) v :=
  arg_agg (P := Try.prog) (t := 98) (F := fun q : Rul × List Done => [I q.1.brk, I q.1.rest, I q.1.stint, I q.1.shift, I q.1.week, .sl 4 (q.2.map Done.av)]) (by kernel_rfl) opDay hv h
end
end Go.Proofs.Ytmfmpagfjgpodaa
