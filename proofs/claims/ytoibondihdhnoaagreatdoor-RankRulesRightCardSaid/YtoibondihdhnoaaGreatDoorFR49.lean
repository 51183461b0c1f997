/- Texts in one: The types of the laws' arguments, opened; no condition. -/
import Derived.Test.YtoibondihdhnoaaGreatDoorFR47
import Derived.Test.YtoibondihdhnoaaGreatDoorFR48
import Derived.Test.YtoibondihdhnoaaGreatDoorFR9
/-! SRArg: The types of the laws' arguments, opened; no condition. -/
namespace Go.Proofs.YtoibondihdhnoaaGreatDoor
open Go.ChangeShapes Go.WideShapes Go.ChangeAt Go.RowKit Go.Deep
set_option maxRecDepth 100000
def Big (n : Int) : Prop := -9223372036854775808 ≤ n ∧ n ≤ 9223372036854775807
section
variable {H : Type} {enc : TypeId × Value → H} {w : World} {base : Nat} {spare : Nat → Bool} {held : Bool}
theorem cells3 : Tryz.prog.cellsOf 3 = 1 := by kernel_rfl
theorem cells4 : Tryz.prog.cellsOf 4 = 1 := by kernel_rfl
theorem cells9 : Tryz.prog.cellsOf 9 = 1 := by kernel_rfl
theorem cells22 : Tryz.prog.cellsOf 22 = 1 := by kernel_rfl
theorem cells24 : Tryz.prog.cellsOf 24 = 3 := by kernel_rfl
theorem cells61 : Tryz.prog.cellsOf 61 = 4 := by kernel_rfl
theorem lim {n : Nat} (h : n ≤ maxLen) : n ≤ 9223372036854775807 := by simp only [maxLen] at h; omega
theorem opInt : Opens enc Tryz.prog w base spare held 3 (fun n => [I n]) Big := (opens_int Tryz.underlying3).map id (fun _ => rfl) (fun _ h => int64_wf h)
theorem opStr : Opens enc Tryz.prog w base spare held 9 (fun s => [S s]) (fun s => s.size ≤ maxLen) := opens_string Tryz.underlying9
theorem opBool : Opens enc Tryz.prog w base spare held 4 (fun b => [B b]) (fun _ => True) := opens_bool Tryz.underlying4
theorem opRk : Opens enc Tryz.prog w base spare held 61 Rk.av (fun x => x.name.size ≤ maxLen ∧ Big x.places ∧ Big x.feeder) :=
  (opens_struct Tryz.underlying61 rfl cells61 (opensF_cons cells9 opStr (opensF_cons cells3 opInt (opensF_cons cells3 opInt (opensF_cons cells4 opBool (opensF_nil _)))))).map (fun q => (⟨q.1, q.2.1, q.2.2.1, q.2.2.2.1⟩ : Rk)) (fun _ => rfl) (fun _ h => ⟨h.1, h.2.1, h.2.2.1⟩)
theorem opRules : Opens enc Tryz.prog w base spare held 24 (fun r : Ru => [.sl 4 (r.ranks.map Rk.av), I r.back, I r.ret]) (fun r => r.ranks.length ≤ maxLen ∧ (∀ x ∈ r.ranks, x.name.size ≤ maxLen ∧ Big x.places ∧ Big x.feeder) ∧ Big r.back ∧ Big r.ret) :=
  (opens_struct Tryz.underlying24 rfl cells24 (opensF_cons cells22 (opens_slice Tryz.underlying22 cells61 (by decide) opRk) (opensF_cons cells3 opInt (opensF_cons cells3 opInt (opensF_nil _))))).map (fun q => (⟨q.1, q.2.1, q.2.2.1⟩ : Ru)) (fun _ => rfl) (fun _ h => ⟨h.1.1, h.1.2, h.2.1, h.2.2.1⟩)
theorem argRules {r : Reach} {b0 : Nat} {v : Value} {d : DataW H} {p : List MemPlace} (hv : Value.okWide Tryz.prog w r b0 24 v) (h : DataW.Trod enc Tryz.prog w base spare held 24 v d p) :
    ∃ n : Ru, (n.ranks.length ≤ maxLen ∧ (∀ x ∈ n.ranks, x.name.size ≤ maxLen ∧ Big x.places ∧ Big x.feeder) ∧ Big n.back ∧ Big n.ret) ∧ V0 w (fun _ _ => False) (rulesA n) v := arg_agg (P := Tryz.prog) (t := 24) (F := fun r : Ru => [.sl 4 (r.ranks.map Rk.av), I r.back, I r.ret]) (by kernel_rfl) opRules hv h
end
theorem own : ownKnob Tryz.prog.godebug = none := by kernel_rfl
theorem laidOut : laidOutB Tryz.prog = true := by kernel_rfl
end Go.Proofs.YtoibondihdhnoaaGreatDoor
