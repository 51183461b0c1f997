/- Texts in one: The types of the laws' arguments, opened; no condition. -/
import Derived.Test.YthbgghmjbaldlaaGreatDoorFT7
import Derived.Test.YthbgghmjbaldlaaGreatDoorFT6
/-! QArg: The types of the laws' arguments, opened; no condition. -/
namespace Go.Proofs.YthbgghmjbaldlaaGreatDoor
open Go.ChangeShapes Go.WideShapes Go.ChangeAt Go.RowKit Go.Deep
set_option maxRecDepth 100000
section
variable {H : Type} {enc : TypeId × Value → H} {w : World} {base : Nat} {spare : Nat → Bool} {held : Bool}
theorem cells3 : Tryz.prog.cellsOf 3 = 1 := by kernel_rfl
theorem cells9 : Tryz.prog.cellsOf 9 = 1 := by kernel_rfl
theorem cellsMark : Tryz.prog.cellsOf 134 = 2 := by kernel_rfl
theorem cellsMarks : Tryz.prog.cellsOf 63 = 1 := by kernel_rfl
theorem cellsItem : Tryz.prog.cellsOf 65 = 4 := by kernel_rfl
theorem cellsClaim : Tryz.prog.cellsOf 87 = 4 := by kernel_rfl
theorem cellsEvent : Tryz.prog.cellsOf 54 = 5 := by kernel_rfl
theorem opInt : Opens enc Tryz.prog w base spare held 3 (fun n => [I n]) (fun _ => True) := (opens_int Tryz.underlying3).map id (fun _ => rfl) (fun _ _ => trivial)
theorem opStr : Opens enc Tryz.prog w base spare held 9 (fun s => [S s]) (fun s => s.size ≤ maxLen) := opens_string Tryz.underlying9
theorem opMark : Opens enc Tryz.prog w base spare held 134 Mark.av (fun m => m.key.size ≤ maxLen ∧ m.value.size ≤ maxLen) :=
  (opens_struct Tryz.underlying134 rfl cellsMark (opensF_cons cells9 opStr (opensF_cons cells9 opStr (opensF_nil _)))).map (fun q => (⟨q.1, q.2.1⟩ : Mark)) (fun _ => rfl) (fun _ h => ⟨h.1, h.2.1⟩)
theorem lim {n : Nat} (h : n ≤ maxLen) : n ≤ 9223372036854775807 := by simp only [maxLen] at h; omega
theorem opItem : Opens enc Tryz.prog w base spare held 65 Item.av BigI :=
  (opens_struct Tryz.underlying65 rfl cellsItem (opensF_cons cells9 opStr (opensF_cons cells3 opInt (opensF_cons cells9 opStr (opensF_cons cellsMarks (opens_slice Tryz.underlying63 cellsMark (by decide) opMark) (opensF_nil _)))))).map
    (fun q => (⟨q.1, q.2.1, q.2.2.1, q.2.2.2.1⟩ : Item)) (fun _ => rfl) (fun _ h => ⟨lim h.1, lim h.2.2.1, lim h.2.2.2.1.1, fun m hm => ⟨lim (h.2.2.2.1.2 m hm).1, lim (h.2.2.2.1.2 m hm).2⟩⟩)
theorem opClaim : Opens enc Tryz.prog w base spare held 87 Item.av BigI :=
  (opens_struct Tryz.underlying87 rfl cellsClaim (opensF_cons cells9 opStr (opensF_cons cells3 opInt (opensF_cons cells9 opStr (opensF_cons cellsMarks (opens_slice Tryz.underlying63 cellsMark (by decide) opMark) (opensF_nil _)))))).map
    (fun q => (⟨q.1, q.2.1, q.2.2.1, q.2.2.2.1⟩ : Item)) (fun _ => rfl) (fun _ h => ⟨lim h.1, lim h.2.2.1, lim h.2.2.2.1.1, fun m hm => ⟨lim (h.2.2.2.1.2 m hm).1, lim (h.2.2.2.1.2 m hm).2⟩⟩)
theorem opEvent : Opens enc Tryz.prog w base spare held 54 Event.av BigE :=
  (opens_struct Tryz.underlying54 rfl cellsEvent (opensF_cons cells9 opStr (opensF_cons cells3 opInt (opensF_cons cells3 opInt (opensF_cons cells9 opStr (opensF_cons cells9 opStr (opensF_nil _))))))).map
    (fun q => (⟨q.1, q.2.1, q.2.2.1, q.2.2.2.1, q.2.2.2.2.1⟩ : Event)) (fun _ => rfl) (fun _ h => ⟨lim h.1, lim h.2.2.2.1, lim h.2.2.2.2.1⟩)
theorem argInt {r : Reach} {b0 : Nat} {v : Value} {d : DataW H} {p : List MemPlace} (hv : Value.okWide Tryz.prog w r b0 3 v) (h : DataW.Trod enc Tryz.prog w base spare held 3 v d p) :
    ∃ n : Int, True ∧ V0 w (fun _ => False) (I n) v := arg_one (P := Tryz.prog) (t := 3) (f := fun n : Int => I n) opInt (one_int (t := 3) Tryz.underlying3 hv) h
theorem argStr {r : Reach} {b0 : Nat} {v : Value} {d : DataW H} {p : List MemPlace} (hv : Value.okWide Tryz.prog w r b0 9 v) (h : DataW.Trod enc Tryz.prog w base spare held 9 v d p) :
    ∃ n : ByteArray, n.size ≤ maxLen ∧ V0 w (fun _ => False) (S n) v := arg_one (P := Tryz.prog) (t := 9) (f := fun n : ByteArray => S n) opStr (one_string (t := 9) Tryz.underlying9 hv) h
theorem argItem {r : Reach} {b0 : Nat} {v : Value} {d : DataW H} {p : List MemPlace} (hv : Value.okWide Tryz.prog w r b0 65 v) (h : DataW.Trod enc Tryz.prog w base spare held 65 v d p) :
    ∃ n : Item, BigI n ∧ V0 w (fun _ => False) (itemA n) v := arg_agg (P := Tryz.prog) (t := 65) (F := Item.av) (by kernel_rfl) opItem hv h
theorem argClaim {r : Reach} {b0 : Nat} {v : Value} {d : DataW H} {p : List MemPlace} (hv : Value.okWide Tryz.prog w r b0 87 v) (h : DataW.Trod enc Tryz.prog w base spare held 87 v d p) :
    ∃ n : Item, BigI n ∧ V0 w (fun _ => False) (itemA n) v := arg_agg (P := Tryz.prog) (t := 87) (F := Item.av) (by kernel_rfl) opClaim hv h
theorem cellsPair : Tryz.prog.cellsOf 100 = 2 := by kernel_rfl
theorem opPair : Opens enc Tryz.prog w base spare held 100 (fun q : Int × Int => [I q.1, I q.2]) (fun _ => True) :=
  (opens_array Tryz.underlying100 cells3 rfl cellsPair (opensF_cons cells3 opInt (opensF_cons cells3 opInt (opensF_nil _)))).map (fun q => (q.1, q.2.1)) (fun _ => rfl) (fun _ _ => trivial)
theorem argPair {r : Reach} {b0 : Nat} {v : Value} {d : DataW H} {p : List MemPlace} (hv : Value.okWide Tryz.prog w r b0 100 v) (h : DataW.Trod enc Tryz.prog w base spare held 100 v d p) :
    ∃ q : Int × Int, True ∧ V0 w (fun _ => False) (.agg [I q.1, I q.2]) v := arg_agg (P := Tryz.prog) (t := 100) (F := fun q : Int × Int => [I q.1, I q.2]) (by kernel_rfl) opPair hv h
theorem argEvents {r : Reach} {b0 : Nat} {v : Value} {d : DataW H} {p : List MemPlace} (hv : Value.okWide Tryz.prog w r b0 76 v) (h : DataW.Trod enc Tryz.prog w base spare held 76 v d p) :
    ∃ l : List Event, (l.length ≤ maxLen ∧ ∀ x ∈ l, BigE x) ∧ V0 w (fun _ => False) (eventsA l) v :=
  arg_one (P := Tryz.prog) (t := 76) (f := fun l : List Event => eventsA l) (opens_slice Tryz.underlying76 cellsEvent (by decide) opEvent) (one_slice (t := 76) Tryz.underlying76 hv) h
theorem argItems {r : Reach} {b0 : Nat} {v : Value} {d : DataW H} {p : List MemPlace} (hv : Value.okWide Tryz.prog w r b0 22 v) (h : DataW.Trod enc Tryz.prog w base spare held 22 v d p) :
    ∃ l : List Item, (l.length ≤ maxLen ∧ ∀ x ∈ l, BigI x) ∧ V0 w (fun _ => False) (itemsA l) v :=
  arg_one (P := Tryz.prog) (t := 22) (f := fun l : List Item => itemsA l) (opens_slice Tryz.underlying22 cellsItem (by decide) opItem) (one_slice (t := 22) Tryz.underlying22 hv) h
theorem argClaims {r : Reach} {b0 : Nat} {v : Value} {d : DataW H} {p : List MemPlace} (hv : Value.okWide Tryz.prog w r b0 23 v) (h : DataW.Trod enc Tryz.prog w base spare held 23 v d p) :
    ∃ l : List Item, (l.length ≤ maxLen ∧ ∀ x ∈ l, BigI x) ∧ V0 w (fun _ => False) (itemsA l) v :=
  arg_one (P := Tryz.prog) (t := 23) (f := fun l : List Item => itemsA l) (opens_slice Tryz.underlying23 cellsClaim (by decide) opClaim) (one_slice (t := 23) Tryz.underlying23 hv) h
theorem cellsPairs : Tryz.prog.cellsOf 35 = 1 := by kernel_rfl
theorem cellsInts : Tryz.prog.cellsOf 26 = 1 := by kernel_rfl
theorem cellsCover : Tryz.prog.cellsOf 37 = 2 := by kernel_rfl
theorem cellsProof : Tryz.prog.cellsOf 39 = 3 := by kernel_rfl
theorem opInts : Opens enc Tryz.prog w base spare held 26 (fun l : List Int => [.sl 1 (l.map fun n => [I n])]) (fun l => l.length ≤ maxLen ∧ ∀ n ∈ l, True) := opens_slice Tryz.underlying26 cells3 (by decide) opInt
theorem opCover : Opens enc Tryz.prog w base spare held 37 (fun q : List Int × List Int => [.sl 1 (q.1.map fun n => [I n]), .sl 1 (q.2.map fun n => [I n])]) (fun q => q.1.length ≤ maxLen ∧ q.2.length ≤ maxLen) :=
  (opens_struct Tryz.underlying37 rfl cellsCover (opensF_cons cellsInts opInts (opensF_cons cellsInts opInts (opensF_nil _)))).map (fun q => (q.1, q.2.1)) (fun _ => rfl) (fun _ h => ⟨h.1.1, h.2.1.1⟩)
theorem opProof : Opens enc Tryz.prog w base spare held 39 (fun q : List (Int × Int) × List Int × List Int => [.sl 2 (q.1.map fun x => [I x.1, I x.2]), .sl 1 (q.2.1.map fun n => [I n]), .sl 1 (q.2.2.map fun n => [I n])]) (fun q => q.1.length ≤ maxLen ∧ q.2.1.length ≤ maxLen ∧ q.2.2.length ≤ maxLen) :=
  (opens_struct Tryz.underlying39 rfl cellsProof (opensF_cons cellsPairs (opens_slice Tryz.underlying35 cellsPair (by decide) opPair) (opensF_cons cellsCover opCover (opensF_nil _)))).map (fun q => (q.1, q.2.1)) (fun _ => rfl) (fun _ h => ⟨h.1.1, h.2.1.1, h.2.1.2⟩)
theorem argProof {r : Reach} {b0 : Nat} {v : Value} {d : DataW H} {p : List MemPlace} (hv : Value.okWide Tryz.prog w r b0 39 v) (h : DataW.Trod enc Tryz.prog w base spare held 39 v d p) :
    ∃ q : List (Int × Int) × List Int × List Int, (q.1.length ≤ maxLen ∧ q.2.1.length ≤ maxLen ∧ q.2.2.length ≤ maxLen) ∧ V0 w (fun _ => False) (.agg [.sl 2 (q.1.map fun x => [I x.1, I x.2]), .sl 1 (q.2.1.map fun n => [I n]), .sl 1 (q.2.2.map fun n => [I n])]) v :=
  arg_agg (P := Tryz.prog) (t := 39) (F := fun q : List (Int × Int) × List Int × List Int => [.sl 2 (q.1.map fun x => [I x.1, I x.2]), .sl 1 (q.2.1.map fun n => [I n]), .sl 1 (q.2.2.map fun n => [I n])]) (by kernel_rfl) opProof hv h
end
theorem own : ownKnob Tryz.prog.godebug = none := by kernel_rfl
theorem laidOut : laidOutB Tryz.prog = true := by kernel_rfl
end Go.Proofs.YthbgghmjbaldlaaGreatDoor
