/- Texts in one: Arguments of the laws of texts, opened with the bounds of their days; no condition. -/
import Derived.Test.YthbgghmjbaldlaaGreatDoorFT8
import Derived.Test.YthbgghmjbaldlaaGreatDoorFT9
/-! QArgT: Arguments of the laws of texts, opened with the bounds of their days; no condition. -/
namespace Go.Proofs.YthbgghmjbaldlaaGreatDoor
open Go.ChangeShapes Go.WideShapes Go.ChangeAt Go.RowKit Go.Deep
set_option maxRecDepth 100000
abbrev In64 (n : Int) : Prop := -9223372036854775808 ≤ n ∧ n ≤ 9223372036854775807
section
variable {H : Type} {enc : TypeId × Value → H} {w : World} {base : Nat} {spare : Nat → Bool} {held : Bool}
theorem opInt6 : Opens enc Tryz.prog w base spare held 3 (fun n => [I n]) In64 := (opens_int Tryz.underlying3).map id (fun _ => rfl) (fun _ h => int64_wf h)
theorem opEvent6 : Opens enc Tryz.prog w base spare held 54 Event.av (fun x => BigE x ∧ In64 x.day ∧ In64 x.kind) :=
  (opens_struct Tryz.underlying54 rfl cellsEvent (opensF_cons cells9 opStr (opensF_cons cells3 opInt6 (opensF_cons cells3 opInt6 (opensF_cons cells9 opStr (opensF_cons cells9 opStr (opensF_nil _))))))).map
    (fun q => (⟨q.1, q.2.1, q.2.2.1, q.2.2.2.1, q.2.2.2.2.1⟩ : Event)) (fun _ => rfl) (fun _ h => ⟨⟨lim h.1, lim h.2.2.2.1, lim h.2.2.2.2.1⟩, h.2.1, h.2.2.1⟩)
theorem opItem6 : Opens enc Tryz.prog w base spare held 65 Item.av (fun x => BigI x ∧ In64 x.day) :=
  (opens_struct Tryz.underlying65 rfl cellsItem (opensF_cons cells9 opStr (opensF_cons cells3 opInt6 (opensF_cons cells9 opStr (opensF_cons cellsMarks (opens_slice Tryz.underlying63 cellsMark (by decide) opMark) (opensF_nil _)))))).map
    (fun q => (⟨q.1, q.2.1, q.2.2.1, q.2.2.2.1⟩ : Item)) (fun _ => rfl) (fun _ h => ⟨⟨lim h.1, lim h.2.2.1, lim h.2.2.2.1.1, fun m hm => ⟨lim (h.2.2.2.1.2 m hm).1, lim (h.2.2.2.1.2 m hm).2⟩⟩, h.2.1⟩)
theorem argEvent6 {r : Reach} {b0 : Nat} {v : Value} {d : DataW H} {p : List MemPlace} (hv : Value.okWide Tryz.prog w r b0 54 v) (h : DataW.Trod enc Tryz.prog w base spare held 54 v d p) :
    ∃ n : Event, (BigE n ∧ In64 n.day ∧ In64 n.kind) ∧ V0 w (fun _ => False) (.agg n.av) v := arg_agg (P := Tryz.prog) (t := 54) (F := Event.av) (by kernel_rfl) opEvent6 hv h
theorem argItem6 {r : Reach} {b0 : Nat} {v : Value} {d : DataW H} {p : List MemPlace} (hv : Value.okWide Tryz.prog w r b0 65 v) (h : DataW.Trod enc Tryz.prog w base spare held 65 v d p) :
    ∃ n : Item, (BigI n ∧ In64 n.day) ∧ V0 w (fun _ => False) (itemA n) v := arg_agg (P := Tryz.prog) (t := 65) (F := Item.av) (by kernel_rfl) opItem6 hv h
theorem argEvents6 {r : Reach} {b0 : Nat} {v : Value} {d : DataW H} {p : List MemPlace} (hv : Value.okWide Tryz.prog w r b0 76 v) (h : DataW.Trod enc Tryz.prog w base spare held 76 v d p) :
    ∃ l : List Event, (l.length ≤ maxLen ∧ ∀ x ∈ l, BigE x ∧ In64 x.day ∧ In64 x.kind) ∧ V0 w (fun _ => False) (eventsA l) v :=
  arg_one (P := Tryz.prog) (t := 76) (f := fun l : List Event => eventsA l) (opens_slice Tryz.underlying76 cellsEvent (by decide) opEvent6) (one_slice (t := 76) Tryz.underlying76 hv) h
end
end Go.Proofs.YthbgghmjbaldlaaGreatDoor
