/- Texts in one: The types of this program's arguments, opened; no condition. -/
import Derived.Test.YtmfmpagfjgpodaaMS1
import Derived.Test.YtmfmpagfjgpodaaMS5
import Derived.Test.YtmfmpagfjgpodaaMS20
/-! VArgs: The types of this program's arguments, opened; no condition. -/
namespace Go.Proofs.Ytmfmpagfjgpodaa
open Go.ChangeShapes Go.WideShapes Go.ChangeAt Go.RowKit Go.Deep
set_option maxRecDepth 100000
section
variable {H : Type} {enc : TypeId × Value → H} {w : World} {base : Nat} {spare : Nat → Bool} {held : Bool}
theorem cells143 : Try.prog.cellsOf 143 = 3 := by kernel_rfl
theorem cells35 : Try.prog.cellsOf 35 = 5 := by kernel_rfl
theorem cells37 : Try.prog.cellsOf 37 = 2 := by kernel_rfl
theorem cells39 : Try.prog.cellsOf 39 = 4 := by kernel_rfl
theorem cells65 : Try.prog.cellsOf 65 = 5 := by kernel_rfl
theorem opInt : Opens enc Try.prog w base spare held 3 (fun n => [I n]) (fun _ => True) := (opens_int Try.underlying3).map id (fun _ => rfl) (fun _ _ => trivial)
theorem opStr : Opens enc Try.prog w base spare held 9 (fun s => [S s]) (fun s => s.size ≤ maxLen) := opens_string Try.underlying9
theorem opRec : Opens enc Try.prog w base spare held 57 Rec.av (fun r => r.driver.size ≤ maxLen) :=
  (opens_struct Try.underlying57 rfl cells57 (opensF_cons cells9 opStr (opensF_cons cells3 opInt (opensF_cons cells3 opInt (opensF_nil _))))).map (fun q => (⟨q.1, q.2.1, q.2.2.1⟩ : Rec)) (fun _ => rfl) (fun _ h => h.1)
theorem opLic : Opens enc Try.prog w base spare held 143 Rec.av (fun r => r.driver.size ≤ maxLen) :=
  (opens_struct Try.underlying143 rfl cells143 (opensF_cons cells9 opStr (opensF_cons cells3 opInt (opensF_cons cells3 opInt (opensF_nil _))))).map (fun q => (⟨q.1, q.2.1, q.2.2.1⟩ : Rec)) (fun _ => rfl) (fun _ h => h.1)
theorem opRul : Opens enc Try.prog w base spare held 35 Rul.av (fun _ => True) :=
  (opens_struct Try.underlying35 rfl cells35 (opensF_cons cells3 opInt (opensF_cons cells3 opInt (opensF_cons cells3 opInt (opensF_cons cells3 opInt (opensF_cons cells3 opInt (opensF_nil _))))))).map (fun q => (⟨q.1, q.2.1, q.2.2.1, q.2.2.2.1, q.2.2.2.2.1⟩ : Rul)) (fun _ => rfl) (fun _ _ => trivial)
instance : Inhabited Rec := ⟨⟨⟨#[]⟩, 0, 0⟩⟩
theorem argRecs {r : Reach} {b0 : Nat} {v : Value} {d : DataW H} {p : List MemPlace} (hv : Value.okWide Try.prog w r b0 22 v) (h : DataW.Trod enc Try.prog w base spare held 22 v d p) :
    ∃ l : List Rec, (l.length ≤ maxLen ∧ ∀ x ∈ l, x.driver.size ≤ maxLen) ∧ V0 w (fun _ => False) (recsA l) v :=
  arg_one (P := Try.prog) (t := 22) (f := fun l : List Rec => recsA l) (opens_slice Try.underlying22 cells57 (by decide) opRec) (one_slice (t := 22) Try.underlying22 hv) h
theorem argLics {r : Reach} {b0 : Nat} {v : Value} {d : DataW H} {p : List MemPlace} (hv : Value.okWide Try.prog w r b0 70 v) (h : DataW.Trod enc Try.prog w base spare held 70 v d p) :
    ∃ l : List Rec, (l.length ≤ maxLen ∧ ∀ x ∈ l, x.driver.size ≤ maxLen) ∧ V0 w (fun _ => False) (recsA l) v :=
  arg_one (P := Try.prog) (t := 70) (f := fun l : List Rec => recsA l) (opens_slice Try.underlying70 cells143 (by decide) opLic) (one_slice (t := 70) Try.underlying70 hv) h
theorem argTxts {r : Reach} {b0 : Nat} {v : Value} {d : DataW H} {p : List MemPlace} (hv : Value.okWide Try.prog w r b0 71 v) (h : DataW.Trod enc Try.prog w base spare held 71 v d p) :
    ∃ l : List ByteArray, (l.length ≤ maxLen ∧ ∀ x ∈ l, x.size ≤ maxLen) ∧ V0 w (fun _ => False) (.sl 1 (l.map txtA)) v :=
  arg_one (P := Try.prog) (t := 71) (f := fun l : List ByteArray => .sl 1 (l.map txtA)) (opens_slice Try.underlying71 cells9 (by decide) opStr) (one_slice (t := 71) Try.underlying71 hv) h
theorem argInt {r : Reach} {b0 : Nat} {v : Value} {d : DataW H} {p : List MemPlace} (hv : Value.okWide Try.prog w r b0 3 v) (h : DataW.Trod enc Try.prog w base spare held 3 v d p) :
    ∃ n : Int, True ∧ V0 w (fun _ => False) (I n) v := arg_one (P := Try.prog) (t := 3) (f := fun n : Int => I n) opInt (one_int (t := 3) Try.underlying3 hv) h
theorem argStr {r : Reach} {b0 : Nat} {v : Value} {d : DataW H} {p : List MemPlace} (hv : Value.okWide Try.prog w r b0 9 v) (h : DataW.Trod enc Try.prog w base spare held 9 v d p) :
    ∃ n : ByteArray, n.size ≤ maxLen ∧ V0 w (fun _ => False) (S n) v := arg_one (P := Try.prog) (t := 9) (f := fun n : ByteArray => S n) opStr (one_string (t := 9) Try.underlying9 hv) h
theorem argRul {r : Reach} {b0 : Nat} {v : Value} {d : DataW H} {p : List MemPlace} (hv : Value.okWide Try.prog w r b0 35 v) (h : DataW.Trod enc Try.prog w base spare held 35 v d p) :
    ∃ n : Rul, True ∧ V0 w (fun _ => False) (.agg n.av) v := arg_agg (P := Try.prog) (t := 35) (F := Rul.av) (by kernel_rfl) opRul hv h
theorem opTakes : Opens enc Try.prog w base spare held 37 (fun q : Int × Int => [I q.1, I q.2]) (fun _ => True) :=
  (opens_struct Try.underlying37 rfl cells37 (opensF_cons cells3 opInt (opensF_cons cells3 opInt (opensF_nil _)))).map (fun q => (q.1, q.2.1)) (fun _ => rfl) (fun _ _ => trivial)
theorem opTrip : Opens enc Try.prog w base spare held 39 Trip.av (fun _ => True) :=
  (opens_struct Try.underlying39 rfl cells39 (opensF_cons cells3 opInt (opensF_cons cells37 opTakes (opensF_cons cells3 opInt (opensF_nil _))))).map (fun q => (⟨q.1, q.2.1.1, q.2.1.2, q.2.2.1⟩ : Trip)) (fun _ => rfl) (fun _ _ => trivial)
theorem argTrip {r : Reach} {b0 : Nat} {v : Value} {d : DataW H} {p : List MemPlace} (hv : Value.okWide Try.prog w r b0 39 v) (h : DataW.Trod enc Try.prog w base spare held 39 v d p) :
    ∃ n : Trip, True ∧ V0 w (fun _ => False) (.agg n.av) v := arg_agg (P := Try.prog) (t := 39) (F := Trip.av) (by kernel_rfl) opTrip hv h
theorem opCase : Opens enc Try.prog w base spare held 65 (fun q : Trip × Int => [I q.1.start, I q.1.lo, I q.1.hi, I q.1.next, I q.2]) (fun _ => True) :=
  (opens_struct Try.underlying65 rfl cells65 (opensF_cons cells39 opTrip (opensF_cons cells3 opInt (opensF_nil _)))).map (fun q => (q.1, q.2.1)) (fun _ => rfl) (fun _ _ => trivial)
theorem argCase {r : Reach} {b0 : Nat} {v : Value} {d : DataW H} {p : List MemPlace} (hv : Value.okWide Try.prog w r b0 65 v) (h : DataW.Trod enc Try.prog w base spare held 65 v d p) :
    ∃ q : Trip × Int, True ∧ V0 w (fun _ => False) (.agg [I q.1.start, I q.1.lo, I q.1.hi, I q.1.next, I q.2]) v := arg_agg (P := Try.prog) (t := 65) (F := fun q : Trip × Int => [I q.1.start, I q.1.lo, I q.1.hi, I q.1.next, I q.2]) (by kernel_rfl) opCase hv h
end
theorem own : ownKnob Try.prog.godebug = none := by kernel_rfl
theorem laidOut : laidOutB Try.prog = true := by kernel_rfl
end Go.Proofs.Ytmfmpagfjgpodaa
