/- Texts in one: The types of the laws' arguments, opened; no condition. -/
import Derived.Test.YtoibondihdhnoaaGreatDoorFRA52
import Derived.Test.YtoibondihdhnoaaGreatDoorFRA53
import Derived.Test.YtoibondihdhnoaaGreatDoorFRA9
namespace Go.Proofs.YtoibondihdhnoaaGreatDoor
open Go.ChangeShapes Go.WideShapes Go.ChangeAt Go.RowKit Go.Deep
set_option maxRecDepth 100000
def Big (n : Int) : Prop := -9223372036854775808 ≤ n ∧ n ≤ 9223372036854775807
section
variable {H : Type} {enc : TypeId × Value → H} {w : World} {base : Nat} {spare : Nat → Bool} {held : Bool}
theorem cells3 : Tryz.prog.cellsOf 3 = 1 := by kernel_rfl
theorem cells4 : Tryz.prog.cellsOf 4 = 1 := by kernel_rfl
theorem cells9 : Tryz.prog.cellsOf 9 = 1 := by kernel_rfl
theorem cells22 : Tryz.prog.cellsOf 22 = 1 := by kernel_rfl
theorem cells24 : Tryz.prog.cellsOf 24 = 3 := by kernel_rfl
theorem cells29 : Tryz.prog.cellsOf 29 = 1 := by kernel_rfl
theorem cells30 : Tryz.prog.cellsOf 30 = 1 := by kernel_rfl
theorem cells32 : Tryz.prog.cellsOf 32 = 3 := by kernel_rfl
theorem cells58 : Tryz.prog.cellsOf 58 = 4 := by kernel_rfl
theorem cells61 : Tryz.prog.cellsOf 61 = 4 := by kernel_rfl
theorem cells62 : Tryz.prog.cellsOf 62 = 1 := by kernel_rfl
theorem cells148 : Tryz.prog.cellsOf 148 = 3 := by kernel_rfl
theorem lim {n : Nat} (h : n ≤ maxLen) : n ≤ 9223372036854775807 := by simp only [maxLen] at h; omega
theorem opInt : Opens enc Tryz.prog w base spare held 3 (fun n => [I n]) Big := (opens_int Tryz.underlying3).map id (fun _ => rfl) (fun _ h => int64_wf h)
theorem opStr : Opens enc Tryz.prog w base spare held 9 (fun s => [S s]) (fun s => s.size ≤ maxLen) := opens_string Tryz.underlying9
theorem opBool : Opens enc Tryz.prog w base spare held 4 (fun b => [B b]) (fun _ => True) := opens_bool Tryz.underlying4
theorem opRk : Opens enc Tryz.prog w base spare held 61 Rk.av (fun x => x.name.size ≤ maxLen ∧ Big x.places ∧ Big x.feeder) :=
 (opens_struct Tryz.underlying61 rfl cells61 (opensF_cons cells9 opStr (opensF_cons cells3 opInt (opensF_cons cells3 opInt (opensF_cons cells4 opBool (opensF_nil _)))))).map (fun q => (⟨q.1, q.2.1, q.2.2.1, q.2.2.2.1⟩ : Rk)) (fun _ => rfl) (fun _ h => ⟨h.1, h.2.1, h.2.2.1⟩)
theorem opEv : Opens enc Tryz.prog w base spare held 58 Ev.av (fun x => x.car.size ≤ maxLen ∧ Big x.kind ∧ Big x.time ∧ Big x.rank) :=
 (opens_struct Tryz.underlying58 rfl cells58 (opensF_cons cells3 opInt (opensF_cons cells3 opInt (opensF_cons cells3 opInt (opensF_cons cells9 opStr (opensF_nil _)))))).map (fun q => (⟨q.1, q.2.1, q.2.2.1, q.2.2.2.1⟩ : Ev)) (fun _ => rfl) (fun _ h => ⟨h.2.2.2.1, h.1, h.2.1, h.2.2.1⟩)
theorem opTk : Opens enc Tryz.prog w base spare held 148 Tk.av (fun x => x.car.size ≤ maxLen ∧ Big x.rank ∧ Big x.time) :=
 (opens_struct Tryz.underlying148 rfl cells148 (opensF_cons cells9 opStr (opensF_cons cells3 opInt (opensF_cons cells3 opInt (opensF_nil _))))).map (fun q => (⟨q.1, q.2.1, q.2.2.1⟩ : Tk)) (fun _ => rfl) (fun _ h => ⟨h.1, h.2.1, h.2.2.1⟩)
theorem opRules : Opens enc Tryz.prog w base spare held 24 (fun r : Ru => [.sl 4 (r.ranks.map Rk.av), I r.back, I r.ret]) (fun r => r.ranks.length ≤ maxLen ∧ (∀ x ∈ r.ranks, x.name.size ≤ maxLen ∧ Big x.places ∧ Big x.feeder) ∧ Big r.back ∧ Big r.ret) :=
 (opens_struct Tryz.underlying24 rfl cells24 (opensF_cons cells22 (opens_slice Tryz.underlying22 cells61 (by decide) opRk) (opensF_cons cells3 opInt (opensF_cons cells3 opInt (opensF_nil _))))).map (fun q => (⟨q.1, q.2.1, q.2.2.1⟩ : Ru)) (fun _ => rfl) (fun _ h => ⟨h.1.1, h.1.2, h.2.1, h.2.2.1⟩)
theorem opTexts : Opens enc Tryz.prog w base spare held 62 (fun l : List ByteArray => [.sl 1 (l.map txtA)]) (fun l => l.length ≤ maxLen ∧ ∀ x ∈ l, x.size ≤ maxLen) := opens_slice Tryz.underlying62 cells9 (by decide) opStr
theorem opState : Opens enc Tryz.prog w base spare held 32 (fun s : St => [queuesA s.q, .sl 3 (s.tk.map Tk.av), I s.time]) (fun s => s.q.length ≤ maxLen ∧ (∀ l ∈ s.q, l.length ≤ maxLen ∧ ∀ x ∈ l, x.size ≤ maxLen) ∧ s.tk.length ≤ maxLen ∧ (∀ x ∈ s.tk, x.car.size ≤ maxLen ∧ Big x.rank ∧ Big x.time) ∧ Big s.time) :=
 (opens_struct Tryz.underlying32 rfl cells32 (opensF_cons cells29 (opens_slice Tryz.underlying29 cells62 (by decide) opTexts) (opensF_cons cells30 (opens_slice Tryz.underlying30 cells148 (by decide) opTk) (opensF_cons cells3 opInt (opensF_nil _))))).map (fun q => (⟨q.1, q.2.1, q.2.2.1⟩ : St)) (fun q => by simp [queuesA, rowsC, List.map_map, Function.comp_def]) (fun _ h => ⟨h.1.1, h.1.2, h.2.1.1, h.2.1.2, h.2.2.1⟩)
theorem argRules {r : Reach} {b0 : Nat} {v : Value} {d : DataW H} {p : List MemPlace} (hv : Value.okWide Tryz.prog w r b0 24 v) (h : DataW.Trod enc Tryz.prog w base spare held 24 v d p) :
  ∃ n : Ru, (n.ranks.length ≤ maxLen ∧ (∀ x ∈ n.ranks, x.name.size ≤ maxLen ∧ Big x.places ∧ Big x.feeder) ∧ Big n.back ∧ Big n.ret) ∧ V0 w (fun _ _ => False) (rulesA n) v := arg_agg (P := Tryz.prog) (t := 24) (F := fun r : Ru => [.sl 4 (r.ranks.map Rk.av), I r.back, I r.ret]) (by kernel_rfl) opRules hv h
theorem argEvent {r : Reach} {b0 : Nat} {v : Value} {d : DataW H} {p : List MemPlace} (hv : Value.okWide Tryz.prog w r b0 58 v) (h : DataW.Trod enc Tryz.prog w base spare held 58 v d p) :
  ∃ n : Ev, (n.car.size ≤ maxLen ∧ Big n.kind ∧ Big n.time ∧ Big n.rank) ∧ V0 w (fun _ _ => False) (evA n) v := arg_agg (P := Tryz.prog) (t := 58) (F := Ev.av) (by kernel_rfl) opEv hv h
theorem argState {r : Reach} {b0 : Nat} {v : Value} {d : DataW H} {p : List MemPlace} (hv : Value.okWide Tryz.prog w r b0 32 v) (h : DataW.Trod enc Tryz.prog w base spare held 32 v d p) :
  ∃ n : St, (n.q.length ≤ maxLen ∧ (∀ l ∈ n.q, l.length ≤ maxLen ∧ ∀ x ∈ l, x.size ≤ maxLen) ∧ n.tk.length ≤ maxLen ∧ (∀ x ∈ n.tk, x.car.size ≤ maxLen ∧ Big x.rank ∧ Big x.time) ∧ Big n.time) ∧ V0 w (fun _ _ => False) (stateA n) v := arg_agg (P := Tryz.prog) (t := 32) (F := fun s : St => [queuesA s.q, .sl 3 (s.tk.map Tk.av), I s.time]) (by kernel_rfl) opState hv h
end
theorem own : ownKnob Tryz.prog.godebug = none := by kernel_rfl
theorem laidOut : laidOutB Tryz.prog = true := by kernel_rfl
end Go.Proofs.YtoibondihdhnoaaGreatDoor
