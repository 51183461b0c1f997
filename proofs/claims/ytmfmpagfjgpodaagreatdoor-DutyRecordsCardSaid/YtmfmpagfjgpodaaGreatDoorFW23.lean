/- Texts in one: The types of the law's arguments, opened; no condition. -/
import Derived.Test.YtmfmpagfjgpodaaGreatDoorFW4
import Derived.Test.YtmfmpagfjgpodaaGreatDoorFW5
import Derived.Test.YtmfmpagfjgpodaaGreatDoorFW21
/-! SWLArg: The types of the law's arguments, opened; no condition. -/
namespace Go.Proofs.YtmfmpagfjgpodaaGreatDoor
open Go.ChangeShapes Go.WideShapes Go.ChangeAt Go.RowKit Go.Deep
set_option maxRecDepth 100000
section
variable {H : Type} {enc : TypeId × Value → H} {w : World} {base : Nat} {spare : Nat → Bool} {held : Bool}
theorem cells3 : Tryz.prog.cellsOf 3 = 1 := by kernel_rfl
theorem cells9 : Tryz.prog.cellsOf 9 = 1 := by kernel_rfl
theorem cellsRec : Tryz.prog.cellsOf 36 = 3 := by kernel_rfl
theorem cellsRul : Tryz.prog.cellsOf 23 = 5 := by kernel_rfl
theorem opInt : Opens enc Tryz.prog w base spare held 3 (fun n => [I n]) Big := (opens_int Tryz.underlying3).map id (fun _ => rfl) (fun _ h => int64_wf h)
theorem opStr : Opens enc Tryz.prog w base spare held 9 (fun s => [S s]) (fun s => s.size ≤ maxLen) := opens_string Tryz.underlying9
theorem lim {n : Nat} (h : n ≤ maxLen) : n ≤ 9223372036854775807 := by simp only [maxLen] at h; omega
theorem opRec : Opens enc Tryz.prog w base spare held 36 Rc.av (fun x => x.driver.size ≤ maxLen ∧ Big x.lo ∧ Big x.hi) :=
  (opens_struct Tryz.underlying36 rfl cellsRec (opensF_cons cells9 opStr (opensF_cons cells3 opInt (opensF_cons cells3 opInt (opensF_nil _))))).map
    (fun q => (⟨q.1, q.2.1, q.2.2.1⟩ : Rc)) (fun _ => rfl) (fun _ h => ⟨h.1, h.2.1, h.2.2.1⟩)
theorem opRul : Opens enc Tryz.prog w base spare held 23 (fun r : Rul => [I r.brk, I r.rest, I r.stint, I r.shift, I r.week]) (fun _ => True) :=
  (opens_struct Tryz.underlying23 rfl cellsRul (opensF_cons cells3 opInt (opensF_cons cells3 opInt (opensF_cons cells3 opInt (opensF_cons cells3 opInt (opensF_cons cells3 opInt (opensF_nil _))))))).map
    (fun q => (⟨q.1, q.2.1, q.2.2.1, q.2.2.2.1, q.2.2.2.2.1⟩ : Rul)) (fun _ => rfl) (fun _ _ => trivial)
theorem argStr {r : Reach} {b0 : Nat} {v : Value} {d : DataW H} {p : List MemPlace} (hv : Value.okWide Tryz.prog w r b0 9 v) (h : DataW.Trod enc Tryz.prog w base spare held 9 v d p) :
    ∃ n : ByteArray, n.size ≤ maxLen ∧ V0 w (fun _ => False) (S n) v := arg_one (P := Tryz.prog) (t := 9) (f := fun n : ByteArray => S n) opStr (one_string (t := 9) Tryz.underlying9 hv) h
theorem argRules {r : Reach} {b0 : Nat} {v : Value} {d : DataW H} {p : List MemPlace} (hv : Value.okWide Tryz.prog w r b0 23 v) (h : DataW.Trod enc Tryz.prog w base spare held 23 v d p) :
    ∃ n : Rul, True ∧ V0 w (fun _ => False) (rulA n) v := arg_agg (P := Tryz.prog) (t := 23) (F := fun r : Rul => [I r.brk, I r.rest, I r.stint, I r.shift, I r.week]) (by kernel_rfl) opRul hv h
theorem argRecords {r : Reach} {b0 : Nat} {v : Value} {d : DataW H} {p : List MemPlace} (hv : Value.okWide Tryz.prog w r b0 24 v) (h : DataW.Trod enc Tryz.prog w base spare held 24 v d p) :
    ∃ l : List Rc, (l.length ≤ maxLen ∧ ∀ x ∈ l, x.driver.size ≤ maxLen ∧ Big x.lo ∧ Big x.hi) ∧ V0 w (fun _ => False) (recsA l) v :=
  arg_one (P := Tryz.prog) (t := 24) (f := fun l : List Rc => recsA l) (opens_slice Tryz.underlying24 cellsRec (by decide) opRec) (one_slice (t := 24) Tryz.underlying24 hv) h
theorem recs_big {l : List Rc} (h : ∀ x ∈ l, x.driver.size ≤ maxLen ∧ Big x.lo ∧ Big x.hi) : ∀ k, k < l.length → (rcat l k).driver.size ≤ 9223372036854775807 ∧ Big (rcat l k).lo ∧ Big (rcat l k).hi := fun k hk => by
  rw [rcat_get hk]
  have := h _ (List.getElem_mem hk)
  exact ⟨lim this.1, this.2⟩
end
theorem own : ownKnob Tryz.prog.godebug = none := by kernel_rfl
theorem laidOut : laidOutB Tryz.prog = true := by kernel_rfl
end Go.Proofs.YtmfmpagfjgpodaaGreatDoor
