/- Texts in one: The types of the laws' arguments, opened; no condition. -/
import Derived.Test.YtoibondihdhnoaaGreatDoorFR47
import Derived.Test.YtoibondihdhnoaaGreatDoorFR48
import Derived.Test.YtoibondihdhnoaaGreatDoorFR9
/-! SRArg: The types of the laws' arguments, opened; no condition. -/
namespace Go.Proofs.YtoibondihdhnoaaGreatDoor
open Go.ChangeShapes Go.WideShapes Go.ChangeAt Go.RowKit Go.Deep
set_option maxRecDepth 100000
def Big (n : Int) : Prop := -9223372036854775808 ≤ n ∧ n ≤ 9223372036854775807
section
variable {H : Type} {enc : TypeId × Value → H} {w : World} {base : Nat} {spare : Nat → Bool} {held : Bool}
theorem cells3 : Tryz.prog.cellsOf 3 = 1 := by kernel_rfl
theorem cells9 : Tryz.prog.cellsOf 9 = 1 := by kernel_rfl
theorem cells45 : Tryz.prog.cellsOf 45 = 3 := by kernel_rfl
theorem lim {n : Nat} (h : n ≤ maxLen) : n ≤ 9223372036854775807 := by simp only [maxLen] at h; omega
theorem opInt : Opens enc Tryz.prog w base spare held 3 (fun n => [I n]) Big := (opens_int Tryz.underlying3).map id (fun _ => rfl) (fun _ h => int64_wf h)
theorem opStr : Opens enc Tryz.prog w base spare held 9 (fun s => [S s]) (fun s => s.size ≤ maxLen) := opens_string Tryz.underlying9
theorem opSg : Opens enc Tryz.prog w base spare held 45 Sg.av (fun x => x.car.size ≤ maxLen) :=
  (opens_struct Tryz.underlying45 rfl cells45 (opensF_cons cells3 opInt (opensF_cons cells3 opInt (opensF_cons cells9 opStr (opensF_nil _))))).map (fun q => (⟨q.1, q.2.1, q.2.2.1⟩ : Sg)) (fun _ => rfl) (fun _ h => h.2.2.1)
theorem argSights {r : Reach} {b0 : Nat} {v : Value} {d : DataW H} {p : List MemPlace} (hv : Value.okWide Tryz.prog w r b0 40 v) (h : DataW.Trod enc Tryz.prog w base spare held 40 v d p) :
    ∃ n : List Sg, (n.length ≤ maxLen ∧ ∀ x ∈ n, x.car.size ≤ maxLen) ∧ V0 w (fun _ _ => False) (sgsA n) v := arg_one (P := Tryz.prog) (t := 40) (f := fun l : List Sg => sgsA l) (opens_slice Tryz.underlying40 cells45 (by decide) opSg) (one_slice (t := 40) Tryz.underlying40 hv) h
end
theorem own : ownKnob Tryz.prog.godebug = none := by kernel_rfl
theorem laidOut : laidOutB Tryz.prog = true := by kernel_rfl
end Go.Proofs.YtoibondihdhnoaaGreatDoor
