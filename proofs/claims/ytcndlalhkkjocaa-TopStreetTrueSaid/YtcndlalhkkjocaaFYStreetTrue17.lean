/- Texts in one: The types of the laws' arguments, opened; no condition. -/
import Derived.Test.YtcndlalhkkjocaaFYStreetTrue16
import Derived.Test.YtcndlalhkkjocaaFYStreetTrue15
/-! SYArg: The types of the laws' arguments, opened; no condition. -/
namespace Go.Proofs.Ytcndlalhkkjocaa
open Go.ChangeShapes Go.WideShapes Go.ChangeAt Go.RowKit Go.Deep
set_option maxRecDepth 100000
section
variable {H : Type} {enc : TypeId × Value → H} {w : World} {base : Nat} {spare : Nat → Bool} {held : Bool}
theorem cells3 : Try.prog.cellsOf 3 = 1 := by kernel_rfl
theorem cells9 : Try.prog.cellsOf 9 = 1 := by kernel_rfl
theorem cells22 : Try.prog.cellsOf 22 = 1 := by kernel_rfl
theorem cells23 : Try.prog.cellsOf 23 = 1 := by kernel_rfl
theorem cells25 : Try.prog.cellsOf 25 = 2 := by kernel_rfl
theorem cells27 : Try.prog.cellsOf 27 = 3 := by kernel_rfl
theorem cells33 : Try.prog.cellsOf 33 = 1 := by kernel_rfl
theorem cells35 : Try.prog.cellsOf 35 = 5 := by kernel_rfl
theorem cells40 : Try.prog.cellsOf 40 = 2 := by kernel_rfl
theorem cells80 : Try.prog.cellsOf 80 = 3 := by kernel_rfl
theorem lim {n : Nat} (h : n ≤ maxLen) : n ≤ 9223372036854775807 := by simp only [maxLen] at h; omega
theorem opInt : Opens enc Try.prog w base spare held 3 (fun n => [I n]) (fun _ => True) := (opens_int Try.underlying3).map id (fun _ => rfl) (fun _ _ => trivial)
theorem opStr : Opens enc Try.prog w base spare held 9 (fun s => [S s]) (fun s => s.size ≤ maxLen) := opens_string Try.underlying9
theorem opRange : Opens enc Try.prog w base spare held 40 (fun q : Int × Int => [I q.1, I q.2]) (fun _ => True) :=
  (opens_struct Try.underlying40 rfl cells40 (opensF_cons cells3 opInt (opensF_cons cells3 opInt (opensF_nil _)))).map (fun q => (q.1, q.2.1)) (fun _ => rfl) (fun _ _ => trivial)
theorem opPt : Opens enc Try.prog w base spare held 80 Pt.av (fun _ => True) :=
  (opens_struct Try.underlying80 rfl cells80 (opensF_cons cells3 opInt (opensF_cons cells40 opRange (opensF_nil _)))).map (fun q => (⟨q.1, q.2.1.1, q.2.1.2⟩ : Pt)) (fun _ => rfl) (fun _ _ => trivial)
theorem opRoad : Opens enc Try.prog w base spare held 35 Rd.av (fun _ => True) :=
  (opens_struct Try.underlying35 rfl cells35 (opensF_cons cells9 opStr (opensF_cons cells3 opInt (opensF_cons cells3 opInt (opensF_cons cells3 opInt (opensF_cons cells33 (opens_slice Try.underlying33 cells80 (by decide) opPt) (opensF_nil _))))))).map
    (fun q => (⟨q.1, q.2.1, q.2.2.1, q.2.2.2.1, q.2.2.2.2.1⟩ : Rd)) (fun _ => rfl) (fun _ _ => trivial)
theorem opNet : Opens enc Try.prog w base spare held 25 (fun n : Nt => [.sl 1 (n.places.map fun s => [S s]), .sl 5 (n.roads.map Rd.av)]) (fun n => n.places.length ≤ maxLen ∧ n.roads.length ≤ maxLen) :=
  (opens_struct Try.underlying25 rfl cells25 (opensF_cons cells22 (opens_slice Try.underlying22 cells9 (by decide) opStr) (opensF_cons cells23 (opens_slice Try.underlying23 cells35 (by decide) opRoad) (opensF_nil _)))).map
    (fun q => (⟨q.1, q.2.1⟩ : Nt)) (fun _ => rfl) (fun _ h => ⟨h.1.1, h.2.1.1⟩)
theorem opTrip : Opens enc Try.prog w base spare held 27 (fun t : Tr => [I t.src, I t.dst, I t.at_]) (fun _ => True) :=
  (opens_struct Try.underlying27 rfl cells27 (opensF_cons cells3 opInt (opensF_cons cells3 opInt (opensF_cons cells3 opInt (opensF_nil _))))).map (fun q => (⟨q.1, q.2.1, q.2.2.1⟩ : Tr)) (fun _ => rfl) (fun _ _ => trivial)
theorem argNet {r : Reach} {b0 : Nat} {v : Value} {d : DataW H} {p : List MemPlace} (hv : Value.okWide Try.prog w r b0 25 v) (h : DataW.Trod enc Try.prog w base spare held 25 v d p) :
    ∃ n : Nt, (n.places.length ≤ maxLen ∧ n.roads.length ≤ maxLen) ∧ V0 w (fun _ _ => False) (netA n) v := arg_agg (P := Try.prog) (t := 25) (F := fun n : Nt => [.sl 1 (n.places.map fun s => [S s]), .sl 5 (n.roads.map Rd.av)]) (by kernel_rfl) opNet hv h
theorem argTrip {r : Reach} {b0 : Nat} {v : Value} {d : DataW H} {p : List MemPlace} (hv : Value.okWide Try.prog w r b0 27 v) (h : DataW.Trod enc Try.prog w base spare held 27 v d p) :
    ∃ t : Tr, True ∧ V0 w (fun _ _ => False) (tripA t) v := arg_agg (P := Try.prog) (t := 27) (F := fun t : Tr => [I t.src, I t.dst, I t.at_]) (by kernel_rfl) opTrip hv h
theorem argInts {r : Reach} {b0 : Nat} {v : Value} {d : DataW H} {p : List MemPlace} (hv : Value.okWide Try.prog w r b0 28 v) (h : DataW.Trod enc Try.prog w base spare held 28 v d p) :
    ∃ l : List Int, (l.length ≤ maxLen ∧ ∀ x ∈ l, True) ∧ V0 w (fun _ _ => False) (intsA l) v :=
  arg_one (P := Try.prog) (t := 28) (f := fun l : List Int => intsA l) (opens_slice Try.underlying28 cells3 (by decide) opInt) (one_slice (t := 28) Try.underlying28 hv) h
end
theorem own : ownKnob Try.prog.godebug = none := by kernel_rfl
theorem laidOut : laidOutB Try.prog = true := by kernel_rfl
end Go.Proofs.Ytcndlalhkkjocaa
