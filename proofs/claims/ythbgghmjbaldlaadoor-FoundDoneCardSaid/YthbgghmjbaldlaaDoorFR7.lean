/- Texts in one: The types of the laws' arguments, opened; no condition. -/
import Derived.Test.YthbgghmjbaldlaaDoorFR6
import Derived.Test.YthbgghmjbaldlaaDoorFR5
/-! QArg: The types of the laws' arguments, opened; no condition. -/
namespace Go.Proofs.YthbgghmjbaldlaaDoor
open Go.ChangeShapes Go.WideShapes Go.ChangeAt Go.RowKit Go.Deep
set_option maxRecDepth 100000
section
variable {H : Type} {enc : TypeId × Value → H} {w : World} {base : Nat} {spare : Nat → Bool} {held : Bool}
theorem cells3 : Tryd.prog.cellsOf 3 = 1 := by kernel_rfl
theorem cells9 : Tryd.prog.cellsOf 9 = 1 := by kernel_rfl
theorem cellsMark : Tryd.prog.cellsOf 125 = 2 := by kernel_rfl
theorem cellsMarks : Tryd.prog.cellsOf 22 = 1 := by kernel_rfl
theorem cellsItem : Tryd.prog.cellsOf 24 = 4 := by kernel_rfl
theorem cellsClaim : Tryd.prog.cellsOf 52 = 4 := by kernel_rfl
theorem cellsEvent : Tryd.prog.cellsOf 48 = 5 := by kernel_rfl
theorem opInt : Opens enc Tryd.prog w base spare held 3 (fun n => [I n]) (fun _ => True) := (opens_int Tryd.underlying3).map id (fun _ => rfl) (fun _ _ => trivial)
theorem opStr : Opens enc Tryd.prog w base spare held 9 (fun s => [S s]) (fun s => s.size ≤ maxLen) := opens_string Tryd.underlying9
theorem opMark : Opens enc Tryd.prog w base spare held 125 Mark.av (fun m => m.key.size ≤ maxLen ∧ m.value.size ≤ maxLen) :=
  (opens_struct Tryd.underlying125 rfl cellsMark (opensF_cons cells9 opStr (opensF_cons cells9 opStr (opensF_nil _)))).map (fun q => (⟨q.1, q.2.1⟩ : Mark)) (fun _ => rfl) (fun _ h => ⟨h.1, h.2.1⟩)
theorem lim {n : Nat} (h : n ≤ maxLen) : n ≤ 9223372036854775807 := by simp only [maxLen] at h; omega
theorem opItem : Opens enc Tryd.prog w base spare held 24 Item.av BigI :=
  (opens_struct Tryd.underlying24 rfl cellsItem (opensF_cons cells9 opStr (opensF_cons cells3 opInt (opensF_cons cells9 opStr (opensF_cons cellsMarks (opens_slice Tryd.underlying22 cellsMark (by decide) opMark) (opensF_nil _)))))).map
    (fun q => (⟨q.1, q.2.1, q.2.2.1, q.2.2.2.1⟩ : Item)) (fun _ => rfl) (fun _ h => ⟨lim h.1, lim h.2.2.1, lim h.2.2.2.1.1, fun m hm => ⟨lim (h.2.2.2.1.2 m hm).1, lim (h.2.2.2.1.2 m hm).2⟩⟩)
theorem opClaim : Opens enc Tryd.prog w base spare held 52 Item.av BigI :=
  (opens_struct Tryd.underlying52 rfl cellsClaim (opensF_cons cells9 opStr (opensF_cons cells3 opInt (opensF_cons cells9 opStr (opensF_cons cellsMarks (opens_slice Tryd.underlying22 cellsMark (by decide) opMark) (opensF_nil _)))))).map
    (fun q => (⟨q.1, q.2.1, q.2.2.1, q.2.2.2.1⟩ : Item)) (fun _ => rfl) (fun _ h => ⟨lim h.1, lim h.2.2.1, lim h.2.2.2.1.1, fun m hm => ⟨lim (h.2.2.2.1.2 m hm).1, lim (h.2.2.2.1.2 m hm).2⟩⟩)
theorem opEvent : Opens enc Tryd.prog w base spare held 48 Event.av BigE :=
  (opens_struct Tryd.underlying48 rfl cellsEvent (opensF_cons cells9 opStr (opensF_cons cells3 opInt (opensF_cons cells3 opInt (opensF_cons cells9 opStr (opensF_cons cells9 opStr (opensF_nil _))))))).map
    (fun q => (⟨q.1, q.2.1, q.2.2.1, q.2.2.2.1, q.2.2.2.2.1⟩ : Event)) (fun _ => rfl) (fun _ h => ⟨lim h.1, lim h.2.2.2.1, lim h.2.2.2.2.1⟩)
theorem argInt {r : Reach} {b0 : Nat} {v : Value} {d : DataW H} {p : List MemPlace} (hv : Value.okWide Tryd.prog w r b0 3 v) (h : DataW.Trod enc Tryd.prog w base spare held 3 v d p) :
    ∃ n : Int, True ∧ V0 w (fun _ => False) (I n) v := arg_one (P := Tryd.prog) (t := 3) (f := fun n : Int => I n) opInt (one_int (t := 3) Tryd.underlying3 hv) h
theorem argStr {r : Reach} {b0 : Nat} {v : Value} {d : DataW H} {p : List MemPlace} (hv : Value.okWide Tryd.prog w r b0 9 v) (h : DataW.Trod enc Tryd.prog w base spare held 9 v d p) :
    ∃ n : ByteArray, n.size ≤ maxLen ∧ V0 w (fun _ => False) (S n) v := arg_one (P := Tryd.prog) (t := 9) (f := fun n : ByteArray => S n) opStr (one_string (t := 9) Tryd.underlying9 hv) h
theorem argItem {r : Reach} {b0 : Nat} {v : Value} {d : DataW H} {p : List MemPlace} (hv : Value.okWide Tryd.prog w r b0 24 v) (h : DataW.Trod enc Tryd.prog w base spare held 24 v d p) :
    ∃ n : Item, BigI n ∧ V0 w (fun _ => False) (itemA n) v := arg_agg (P := Tryd.prog) (t := 24) (F := Item.av) (by kernel_rfl) opItem hv h
theorem argClaim {r : Reach} {b0 : Nat} {v : Value} {d : DataW H} {p : List MemPlace} (hv : Value.okWide Tryd.prog w r b0 52 v) (h : DataW.Trod enc Tryd.prog w base spare held 52 v d p) :
    ∃ n : Item, BigI n ∧ V0 w (fun _ => False) (itemA n) v := arg_agg (P := Tryd.prog) (t := 52) (F := Item.av) (by kernel_rfl) opClaim hv h
theorem cellsPair : Tryd.prog.cellsOf 46 = 2 := by kernel_rfl
theorem opPair : Opens enc Tryd.prog w base spare held 46 (fun q : Int × Int => [I q.1, I q.2]) (fun _ => True) :=
  (opens_array Tryd.underlying46 cells3 rfl cellsPair (opensF_cons cells3 opInt (opensF_cons cells3 opInt (opensF_nil _)))).map (fun q => (q.1, q.2.1)) (fun _ => rfl) (fun _ _ => trivial)
theorem argPair {r : Reach} {b0 : Nat} {v : Value} {d : DataW H} {p : List MemPlace} (hv : Value.okWide Tryd.prog w r b0 46 v) (h : DataW.Trod enc Tryd.prog w base spare held 46 v d p) :
    ∃ q : Int × Int, True ∧ V0 w (fun _ => False) (.agg [I q.1, I q.2]) v := arg_agg (P := Tryd.prog) (t := 46) (F := fun q : Int × Int => [I q.1, I q.2]) (by kernel_rfl) opPair hv h
theorem argEvents {r : Reach} {b0 : Nat} {v : Value} {d : DataW H} {p : List MemPlace} (hv : Value.okWide Tryd.prog w r b0 25 v) (h : DataW.Trod enc Tryd.prog w base spare held 25 v d p) :
    ∃ l : List Event, (l.length ≤ maxLen ∧ ∀ x ∈ l, BigE x) ∧ V0 w (fun _ => False) (eventsA l) v :=
  arg_one (P := Tryd.prog) (t := 25) (f := fun l : List Event => eventsA l) (opens_slice Tryd.underlying25 cellsEvent (by decide) opEvent) (one_slice (t := 25) Tryd.underlying25 hv) h
theorem argItems {r : Reach} {b0 : Nat} {v : Value} {d : DataW H} {p : List MemPlace} (hv : Value.okWide Tryd.prog w r b0 69 v) (h : DataW.Trod enc Tryd.prog w base spare held 69 v d p) :
    ∃ l : List Item, (l.length ≤ maxLen ∧ ∀ x ∈ l, BigI x) ∧ V0 w (fun _ => False) (itemsA l) v :=
  arg_one (P := Tryd.prog) (t := 69) (f := fun l : List Item => itemsA l) (opens_slice Tryd.underlying69 cellsItem (by decide) opItem) (one_slice (t := 69) Tryd.underlying69 hv) h
theorem argClaims {r : Reach} {b0 : Nat} {v : Value} {d : DataW H} {p : List MemPlace} (hv : Value.okWide Tryd.prog w r b0 71 v) (h : DataW.Trod enc Tryd.prog w base spare held 71 v d p) :
    ∃ l : List Item, (l.length ≤ maxLen ∧ ∀ x ∈ l, BigI x) ∧ V0 w (fun _ => False) (itemsA l) v :=
  arg_one (P := Tryd.prog) (t := 71) (f := fun l : List Item => itemsA l) (opens_slice Tryd.underlying71 cellsClaim (by decide) opClaim) (one_slice (t := 71) Tryd.underlying71 hv) h
theorem cellsPairs : Tryd.prog.cellsOf 93 = 1 := by kernel_rfl
theorem cellsInts : Tryd.prog.cellsOf 72 = 1 := by kernel_rfl
theorem cellsCover : Tryd.prog.cellsOf 95 = 2 := by kernel_rfl
theorem cellsProof : Tryd.prog.cellsOf 97 = 3 := by kernel_rfl
theorem opInts : Opens enc Tryd.prog w base spare held 72 (fun l : List Int => [.sl 1 (l.map fun n => [I n])]) (fun l => l.length ≤ maxLen ∧ ∀ n ∈ l, True) := opens_slice Tryd.underlying72 cells3 (by decide) opInt
theorem opCover : Opens enc Tryd.prog w base spare held 95 (fun q : List Int × List Int => [.sl 1 (q.1.map fun n => [I n]), .sl 1 (q.2.map fun n => [I n])]) (fun q => q.1.length ≤ maxLen ∧ q.2.length ≤ maxLen) :=
  (opens_struct Tryd.underlying95 rfl cellsCover (opensF_cons cellsInts opInts (opensF_cons cellsInts opInts (opensF_nil _)))).map (fun q => (q.1, q.2.1)) (fun _ => rfl) (fun _ h => ⟨h.1.1, h.2.1.1⟩)
theorem opProof : Opens enc Tryd.prog w base spare held 97 (fun q : List (Int × Int) × List Int × List Int => [.sl 2 (q.1.map fun x => [I x.1, I x.2]), .sl 1 (q.2.1.map fun n => [I n]), .sl 1 (q.2.2.map fun n => [I n])]) (fun q => q.1.length ≤ maxLen ∧ q.2.1.length ≤ maxLen ∧ q.2.2.length ≤ maxLen) :=
  (opens_struct Tryd.underlying97 rfl cellsProof (opensF_cons cellsPairs (opens_slice Tryd.underlying93 cellsPair (by decide) opPair) (opensF_cons cellsCover opCover (opensF_nil _)))).map (fun q => (q.1, q.2.1)) (fun _ => rfl) (fun _ h => ⟨h.1.1, h.2.1.1, h.2.1.2⟩)
theorem argProof {r : Reach} {b0 : Nat} {v : Value} {d : DataW H} {p : List MemPlace} (hv : Value.okWide Tryd.prog w r b0 97 v) (h : DataW.Trod enc Tryd.prog w base spare held 97 v d p) :
    ∃ q : List (Int × Int) × List Int × List Int, (q.1.length ≤ maxLen ∧ q.2.1.length ≤ maxLen ∧ q.2.2.length ≤ maxLen) ∧ V0 w (fun _ => False) (.agg [.sl 2 (q.1.map fun x => [I x.1, I x.2]), .sl 1 (q.2.1.map fun n => [I n]), .sl 1 (q.2.2.map fun n => [I n])]) v :=
  arg_agg (P := Tryd.prog) (t := 97) (F := fun q : List (Int × Int) × List Int × List Int => [.sl 2 (q.1.map fun x => [I x.1, I x.2]), .sl 1 (q.2.1.map fun n => [I n]), .sl 1 (q.2.2.map fun n => [I n])]) (by kernel_rfl) opProof hv h
theorem cellsKept : Tryd.prog.cellsOf 87 = 5 := by kernel_rfl
theorem cellsEvents : Tryd.prog.cellsOf 25 = 1 := by kernel_rfl
theorem opKept : Opens enc Tryd.prog w base spare held 87 Kept.av (fun x => BigI x.item ∧ x.events.length ≤ maxLen ∧ ∀ v ∈ x.events, BigE v) :=
  (opens_struct Tryd.underlying87 rfl cellsKept (opensF_cons cellsItem opItem (opensF_cons cellsEvents (opens_slice Tryd.underlying25 cellsEvent (by decide) opEvent) (opensF_nil _)))).map (fun q => (⟨q.1, q.2.1⟩ : Kept)) (fun _ => rfl) (fun _ h => ⟨h.1, h.2.1.1, h.2.1.2⟩)
theorem argKepts {r : Reach} {b0 : Nat} {v : Value} {d : DataW H} {p : List MemPlace} (hv : Value.okWide Tryd.prog w r b0 85 v) (h : DataW.Trod enc Tryd.prog w base spare held 85 v d p) :
    ∃ l : List Kept, (l.length ≤ maxLen ∧ ∀ x ∈ l, BigI x.item ∧ x.events.length ≤ maxLen ∧ ∀ v ∈ x.events, BigE v) ∧ V0 w (fun _ => False) (keptsA l) v :=
  arg_one (P := Tryd.prog) (t := 85) (f := fun l : List Kept => keptsA l) (opens_slice Tryd.underlying85 cellsKept (by decide) opKept) (one_slice (t := 85) Tryd.underlying85 hv) h
end
theorem own : ownKnob Tryd.prog.godebug = none := by kernel_rfl
theorem laidOut : laidOutB Tryd.prog = true := by kernel_rfl
end Go.Proofs.YthbgghmjbaldlaaDoor
