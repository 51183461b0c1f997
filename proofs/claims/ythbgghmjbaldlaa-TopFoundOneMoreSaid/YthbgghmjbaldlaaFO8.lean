/- Texts in one: The types of the laws' arguments, opened; no condition. -/
import Derived.Test.YthbgghmjbaldlaaFO7
import Derived.Test.YthbgghmjbaldlaaFO6
/-! QArg: The types of the laws' arguments, opened; no condition. -/
namespace Go.Proofs.Ythbgghmjbaldlaa
open Go.ChangeShapes Go.WideShapes Go.ChangeAt Go.RowKit Go.Deep
set_option maxRecDepth 100000
section
variable {H : Type} {enc : TypeId × Value → H} {w : World} {base : Nat} {spare : Nat → Bool} {held : Bool}
theorem cells3 : Try.prog.cellsOf 3 = 1 := by kernel_rfl
theorem cells9 : Try.prog.cellsOf 9 = 1 := by kernel_rfl
theorem cellsMark : Try.prog.cellsOf 112 = 2 := by kernel_rfl
theorem cellsMarks : Try.prog.cellsOf 42 = 1 := by kernel_rfl
theorem cellsItem : Try.prog.cellsOf 54 = 4 := by kernel_rfl
theorem cellsClaim : Try.prog.cellsOf 44 = 4 := by kernel_rfl
theorem opInt : Opens enc Try.prog w base spare held 3 (fun n => [I n]) (fun _ => True) := (opens_int Try.underlying3).map id (fun _ => rfl) (fun _ _ => trivial)
theorem opStr : Opens enc Try.prog w base spare held 9 (fun s => [S s]) (fun s => s.size ≤ maxLen) := opens_string Try.underlying9
theorem opMark : Opens enc Try.prog w base spare held 112 Mark.av (fun m => m.key.size ≤ maxLen ∧ m.value.size ≤ maxLen) :=
  (opens_struct Try.underlying112 rfl cellsMark (opensF_cons cells9 opStr (opensF_cons cells9 opStr (opensF_nil _)))).map (fun q => (⟨q.1, q.2.1⟩ : Mark)) (fun _ => rfl) (fun _ h => ⟨h.1, h.2.1⟩)
theorem lim {n : Nat} (h : n ≤ maxLen) : n ≤ 9223372036854775807 := by simp only [maxLen] at h; omega
theorem opItem : Opens enc Try.prog w base spare held 54 Item.av BigI :=
  (opens_struct Try.underlying54 rfl cellsItem (opensF_cons cells9 opStr (opensF_cons cells3 opInt (opensF_cons cells9 opStr (opensF_cons cellsMarks (opens_slice Try.underlying42 cellsMark (by decide) opMark) (opensF_nil _)))))).map
    (fun q => (⟨q.1, q.2.1, q.2.2.1, q.2.2.2.1⟩ : Item)) (fun _ => rfl) (fun _ h => ⟨lim h.1, lim h.2.2.1, lim h.2.2.2.1.1, fun m hm => ⟨lim (h.2.2.2.1.2 m hm).1, lim (h.2.2.2.1.2 m hm).2⟩⟩)
theorem opClaim : Opens enc Try.prog w base spare held 44 Item.av BigI :=
  (opens_struct Try.underlying44 rfl cellsClaim (opensF_cons cells9 opStr (opensF_cons cells3 opInt (opensF_cons cells9 opStr (opensF_cons cellsMarks (opens_slice Try.underlying42 cellsMark (by decide) opMark) (opensF_nil _)))))).map
    (fun q => (⟨q.1, q.2.1, q.2.2.1, q.2.2.2.1⟩ : Item)) (fun _ => rfl) (fun _ h => ⟨lim h.1, lim h.2.2.1, lim h.2.2.2.1.1, fun m hm => ⟨lim (h.2.2.2.1.2 m hm).1, lim (h.2.2.2.1.2 m hm).2⟩⟩)
theorem argInt {r : Reach} {b0 : Nat} {v : Value} {d : DataW H} {p : List MemPlace} (hv : Value.okWide Try.prog w r b0 3 v) (h : DataW.Trod enc Try.prog w base spare held 3 v d p) :
    ∃ n : Int, True ∧ V0 w (fun _ _ => False) (I n) v := arg_one (P := Try.prog) (t := 3) (f := fun n : Int => I n) opInt (one_int (t := 3) Try.underlying3 hv) h
theorem argItems {r : Reach} {b0 : Nat} {v : Value} {d : DataW H} {p : List MemPlace} (hv : Value.okWide Try.prog w r b0 22 v) (h : DataW.Trod enc Try.prog w base spare held 22 v d p) :
    ∃ l : List Item, (l.length ≤ maxLen ∧ ∀ x ∈ l, BigI x) ∧ V0 w (fun _ _ => False) (itemsA l) v :=
  arg_one (P := Try.prog) (t := 22) (f := fun l : List Item => itemsA l) (opens_slice Try.underlying22 cellsItem (by decide) opItem) (one_slice (t := 22) Try.underlying22 hv) h
theorem argClaims {r : Reach} {b0 : Nat} {v : Value} {d : DataW H} {p : List MemPlace} (hv : Value.okWide Try.prog w r b0 23 v) (h : DataW.Trod enc Try.prog w base spare held 23 v d p) :
    ∃ l : List Item, (l.length ≤ maxLen ∧ ∀ x ∈ l, BigI x) ∧ V0 w (fun _ _ => False) (itemsA l) v :=
  arg_one (P := Try.prog) (t := 23) (f := fun l : List Item => itemsA l) (opens_slice Try.underlying23 cellsClaim (by decide) opClaim) (one_slice (t := 23) Try.underlying23 hv) h
end
theorem own : ownKnob Try.prog.godebug = none := by kernel_rfl
theorem laidOut : laidOutB Try.prog = true := by kernel_rfl
end Go.Proofs.Ythbgghmjbaldlaa
