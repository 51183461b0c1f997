/- Texts in one: The types of the laws' arguments, opened; no condition. -/
import Derived.Test.YtoibondihdhnoaaGreatDoorFR48
import Derived.Test.YtoibondihdhnoaaGreatDoorFR49
import Derived.Test.YtoibondihdhnoaaGreatDoorFR9
/-! SRArg: The types of the laws' arguments, opened; no condition. -/
namespace Go.Proofs.YtoibondihdhnoaaGreatDoor
open Go.ChangeShapes Go.WideShapes Go.ChangeAt Go.RowKit Go.Deep
set_option maxRecDepth 100000
def Big (n : Int) : Prop := -9223372036854775808 ≤ n ∧ n ≤ 9223372036854775807
section
variable {H : Type} {enc : TypeId × Value → H} {w : World} {base : Nat} {spare : Nat → Bool} {held : Bool}
theorem cells3 : Tryz.prog.cellsOf 3 = 1 := by kernel_rfl
theorem cells9 : Tryz.prog.cellsOf 9 = 1 := by kernel_rfl
theorem cells58 : Tryz.prog.cellsOf 58 = 4 := by kernel_rfl
theorem lim {n : Nat} (h : n ≤ maxLen) : n ≤ 9223372036854775807 := by simp only [maxLen] at h; omega
theorem opInt : Opens enc Tryz.prog w base spare held 3 (fun n => [I n]) Big := (opens_int Tryz.underlying3).map id (fun _ => rfl) (fun _ h => int64_wf h)
theorem opStr : Opens enc Tryz.prog w base spare held 9 (fun s => [S s]) (fun s => s.size ≤ maxLen) := opens_string Tryz.underlying9
theorem opEv : Opens enc Tryz.prog w base spare held 58 Ev.av (fun x => x.car.size ≤ maxLen ∧ Big x.kind ∧ Big x.time ∧ Big x.rank) :=
  (opens_struct Tryz.underlying58 rfl cells58 (opensF_cons cells3 opInt (opensF_cons cells3 opInt (opensF_cons cells3 opInt (opensF_cons cells9 opStr (opensF_nil _)))))).map (fun q => (⟨q.1, q.2.1, q.2.2.1, q.2.2.2.1⟩ : Ev)) (fun _ => rfl) (fun _ h => ⟨h.2.2.2.1, h.1, h.2.1, h.2.2.1⟩)
theorem argStr {r : Reach} {b0 : Nat} {v : Value} {d : DataW H} {p : List MemPlace} (hv : Value.okWide Tryz.prog w r b0 9 v) (h : DataW.Trod enc Tryz.prog w base spare held 9 v d p) :
    ∃ n : ByteArray, n.size ≤ maxLen ∧ V0 w (fun _ _ => False) (S n) v := arg_one (P := Tryz.prog) (t := 9) (f := fun n : ByteArray => S n) opStr (one_string (t := 9) Tryz.underlying9 hv) h
theorem argEvent {r : Reach} {b0 : Nat} {v : Value} {d : DataW H} {p : List MemPlace} (hv : Value.okWide Tryz.prog w r b0 58 v) (h : DataW.Trod enc Tryz.prog w base spare held 58 v d p) :
    ∃ n : Ev, (n.car.size ≤ maxLen ∧ Big n.kind ∧ Big n.time ∧ Big n.rank) ∧ V0 w (fun _ _ => False) (evA n) v := arg_agg (P := Tryz.prog) (t := 58) (F := Ev.av) (by kernel_rfl) opEv hv h
end
theorem own : ownKnob Tryz.prog.godebug = none := by kernel_rfl
theorem laidOut : laidOutB Tryz.prog = true := by kernel_rfl
end Go.Proofs.YtoibondihdhnoaaGreatDoor
