/- Texts in one: The types of the laws' arguments, opened; no condition. -/
import Derived.Test.YtcndlalhkkjocaaFYStreetExamined16
import Derived.Test.YtcndlalhkkjocaaFYStreetExamined15
/-! SYArg: The types of the laws' arguments, opened; no condition. -/
namespace Go.Proofs.Ytcndlalhkkjocaa
open Go.ChangeShapes Go.WideShapes Go.ChangeAt Go.RowKit Go.Deep
set_option maxRecDepth 100000
section
variable {H : Type} {enc : TypeId × Value → H} {w : World} {base : Nat} {spare : Nat → Bool} {held : Bool}
theorem cells3 : Try.prog.cellsOf 3 = 1 := by kernel_rfl
theorem cells9 : Try.prog.cellsOf 9 = 1 := by kernel_rfl
theorem cells22 : Try.prog.cellsOf 22 = 1 := by kernel_rfl
theorem cells23 : Try.prog.cellsOf 23 = 1 := by kernel_rfl
theorem cells25 : Try.prog.cellsOf 25 = 2 := by kernel_rfl
theorem cells28 : Try.prog.cellsOf 28 = 1 := by kernel_rfl
theorem cells33 : Try.prog.cellsOf 33 = 1 := by kernel_rfl
theorem cells35 : Try.prog.cellsOf 35 = 5 := by kernel_rfl
theorem cells40 : Try.prog.cellsOf 40 = 2 := by kernel_rfl
theorem cells48 : Try.prog.cellsOf 48 = 2 := by kernel_rfl
theorem cells80 : Try.prog.cellsOf 80 = 3 := by kernel_rfl
theorem lim {n : Nat} (h : n ≤ maxLen) : n ≤ 9223372036854775807 := by simp only [maxLen] at h; omega
theorem opInt : Opens enc Try.prog w base spare held 3 (fun n => [I n]) (fun _ => True) := (opens_int Try.underlying3).map id (fun _ => rfl) (fun _ _ => trivial)
theorem opStr : Opens enc Try.prog w base spare held 9 (fun s => [S s]) (fun s => s.size ≤ maxLen) := opens_string Try.underlying9
theorem opRange : Opens enc Try.prog w base spare held 40 (fun q : Int × Int => [I q.1, I q.2]) (fun _ => True) :=
  (opens_struct Try.underlying40 rfl cells40 (opensF_cons cells3 opInt (opensF_cons cells3 opInt (opensF_nil _)))).map (fun q => (q.1, q.2.1)) (fun _ => rfl) (fun _ _ => trivial)
theorem opPt : Opens enc Try.prog w base spare held 80 Pt.av (fun _ => True) :=
  (opens_struct Try.underlying80 rfl cells80 (opensF_cons cells3 opInt (opensF_cons cells40 opRange (opensF_nil _)))).map (fun q => (⟨q.1, q.2.1.1, q.2.1.2⟩ : Pt)) (fun _ => rfl) (fun _ _ => trivial)
theorem opRoad : Opens enc Try.prog w base spare held 35 Rd.av (fun _ => True) :=
  (opens_struct Try.underlying35 rfl cells35 (opensF_cons cells9 opStr (opensF_cons cells3 opInt (opensF_cons cells3 opInt (opensF_cons cells3 opInt (opensF_cons cells33 (opens_slice Try.underlying33 cells80 (by decide) opPt) (opensF_nil _))))))).map
    (fun q => (⟨q.1, q.2.1, q.2.2.1, q.2.2.2.1, q.2.2.2.2.1⟩ : Rd)) (fun _ => rfl) (fun _ _ => trivial)
theorem opNet : Opens enc Try.prog w base spare held 25 (fun n : Nt => [.sl 1 (n.places.map fun s => [S s]), .sl 5 (n.roads.map Rd.av)]) (fun n => n.places.length ≤ maxLen ∧ n.roads.length ≤ maxLen) :=
  (opens_struct Try.underlying25 rfl cells25 (opensF_cons cells22 (opens_slice Try.underlying22 cells9 (by decide) opStr) (opensF_cons cells23 (opens_slice Try.underlying23 cells35 (by decide) opRoad) (opensF_nil _)))).map
    (fun q => (⟨q.1, q.2.1⟩ : Nt)) (fun _ => rfl) (fun _ h => ⟨h.1.1, h.2.1.1⟩)
theorem opExam : Opens enc Try.prog w base spare held 48 (fun q : List Int × Int => [.sl 1 (q.1.map fun n => [I n]), I q.2]) (fun q => q.1.length ≤ maxLen) :=
  (opens_struct Try.underlying48 rfl cells48 (opensF_cons cells28 (opens_slice Try.underlying28 cells3 (by decide) opInt) (opensF_cons cells3 opInt (opensF_nil _)))).map (fun q => (q.1, q.2.1)) (fun _ => rfl) (fun _ h => h.1.1)
theorem argInt {r : Reach} {b0 : Nat} {v : Value} {d : DataW H} {p : List MemPlace} (hv : Value.okWide Try.prog w r b0 3 v) (h : DataW.Trod enc Try.prog w base spare held 3 v d p) :
    ∃ n : Int, True ∧ V0 w (fun _ _ => False) (I n) v := arg_one (P := Try.prog) (t := 3) (f := fun n : Int => I n) opInt (one_int (t := 3) Try.underlying3 hv) h
theorem argNet {r : Reach} {b0 : Nat} {v : Value} {d : DataW H} {p : List MemPlace} (hv : Value.okWide Try.prog w r b0 25 v) (h : DataW.Trod enc Try.prog w base spare held 25 v d p) :
    ∃ n : Nt, (n.places.length ≤ maxLen ∧ n.roads.length ≤ maxLen) ∧ V0 w (fun _ _ => False) (netA n) v := arg_agg (P := Try.prog) (t := 25) (F := fun n : Nt => [.sl 1 (n.places.map fun s => [S s]), .sl 5 (n.roads.map Rd.av)]) (by kernel_rfl) opNet hv h
theorem argExam {r : Reach} {b0 : Nat} {v : Value} {d : DataW H} {p : List MemPlace} (hv : Value.okWide Try.prog w r b0 48 v) (h : DataW.Trod enc Try.prog w base spare held 48 v d p) :
    ∃ q : List Int × Int, q.1.length ≤ maxLen ∧ V0 w (fun _ _ => False) (.agg [intsA q.1, I q.2]) v := arg_agg (P := Try.prog) (t := 48) (F := fun q : List Int × Int => [.sl 1 (q.1.map fun n => [I n]), I q.2]) (by kernel_rfl) opExam hv h
end
theorem own : ownKnob Try.prog.godebug = none := by kernel_rfl
theorem laidOut : laidOutB Try.prog = true := by kernel_rfl
end Go.Proofs.Ytcndlalhkkjocaa
